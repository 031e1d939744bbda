-- made by a program of this repo (wip/patch_print.py); not trusted: Lean checks it
import Derived.Test.YthnfmoaiejaheaaZPDiskWrapsx0
import Derived.Test.YthnfmoaiejaheaaZPDiskWrapsx3
import Derived.Test.YthnfmoaiejaheaaZPDiskWrapsx4
import Derived.Test.YthnfmoaiejaheaaZPDiskWrapsx5
import Derived.Test.YthnfmoaiejaheaaZPDiskWrapsx6
import Derived.Test.YthnfmoaiejaheaaZPDiskWrapsx7
import Derived.Test.YthnfmoaiejaheaaZPDiskWrapsx8
-- squeezed
namespace Go.Proofs.Ythnfmoaiejaheaa.PDiskWraps
open Go.RowKit Go.Proofs.YthnfmoaiejaheaaW.PrintWords Go.Proofs.YthnfmoaiejaheaaW.PrintLast Go.Proofs.YthnfmoaiejaheaaW.PrintMore
attribute [local go_sem] max2_int min2_int max_two min_two max_three min_three max_four min_four   -- for this text's walks alone
set_option linter.unusedVariables false
set_option linter.unusedSimpArgs false

/-! ### kotatsulaw06_DiskWraps: function 6 -/
mutual
def kotatsulaw06_DiskWraps.j0 : Nat → Int → Int → List (S73) → List Int → List Int → Bool → Option (Bool)
 | 0, _, _, _, _, _, _ => none
 | k + 1, x2, x3, x9, x10, x11, x60 => if x60 = true then (some false) else ((disk_Unwrap.f k x11).bind fun bt367 => (if bt367.2 = 0 then ((block_Same.f bt367.1 x9).bind fun t371 => (kotatsulaw06_DiskWraps.j1 k x2 x3 x10 (!t371))) else (kotatsulaw06_DiskWraps.j1 k x2 x3 x10 true)))
def kotatsulaw06_DiskWraps.j1 : Nat → Int → Int → List Int → Bool → Option (Bool)
 | 0, _, _, _, _ => none
 | k + 1, x2, x3, x10, x73 => if x73 = true then (some false) else ((kotatsuref01_Join.f k (([x10] : List (List Int)))).bind fun t375 => (if (t375.length : Int) = 0 then (none) else (if 0 ≤ (Int.tmod (wrap64 (x2)) (t375.length : Int)) then (if (Int.tmod (wrap64 (x2)) (t375.length : Int)) < (t375.length : Int) then ((some (t375.set ((Int.tmod (wrap64 (x2)) (t375.length : Int)) : Int).toNat (Go.bits .xor .u8 (rd t375 (Int.tmod (wrap64 (x2)) (t375.length : Int))) x3) : List Int)).bind fun y379 => ((disk_Unwrap.f k y379).bind fun bt380 => ((kotatsuref06_Unwrap.f k y379).bind fun bt384 => (if bt380.2 = bt384.2 then ((kotatsulaw06_own.f k bt380.1).bind fun t388 => ((kotatsuref05_Same.f k t388 bt384.1).bind fun t391 => (some t391))) else (some false))))) else (none)) else (none))))
end
def kotatsulaw06_DiskWraps.f (k : Nat) (a0 : Int) (l1 : List (S76)) (a2 : Int) (a3 : Int) : Option (Bool) := (kotatsulaw06_awake.f k).bind fun t338 => (if t338 = true then ((kotatsulaw06_made.f k a0 l1).bind fun t339 => ((kotatsulaw06_own.f k t339).bind fun t342 => ((kotatsuref06_Wrap.f k t342).bind fun t345 => ((disk_Wrap.f k t339).bind fun bt348 => (if bt348.2 = true then (if (bt348.1.length : Int) = 65536 then (if 0 ≤ (t345.length : Int) then (if (t345.length : Int) ≤ (bt348.1.length : Int) then ((kotatsuref01_Same.f k (bt348.1.take ((t345.length : Int) : Int).toNat) t345).bind fun t357 => (if t357 = true then (if 0 ≤ (wrap64 (65536 - (t345.length : Int))) then (if (wrap64 (65536 - (t345.length : Int)) : Int).toNat ≤ 281474976710656 then ((kotatsuref01_Same.f k (bt348.1.drop ((t345.length : Int) : Int).toNat) (List.replicate (wrap64 (65536 - (t345.length : Int)) : Int).toNat 0)).bind fun t366 => (kotatsulaw06_DiskWraps.j0 k a2 a3 t339 t345 bt348.1 (!t366))) else (none)) else (none)) else (kotatsulaw06_DiskWraps.j0 k a2 a3 t339 t345 bt348.1 true))) else (none)) else (none)) else (kotatsulaw06_DiskWraps.j0 k a2 a3 t339 t345 bt348.1 true)) else (kotatsulaw06_DiskWraps.j0 k a2 a3 t339 t345 bt348.1 true)))))) else (some false))
def kotatsulaw06_DiskWraps.T6 : Bool × List (List Nat × List Nat) := (true, [([], []), ([0], [0]), ([1], [1]), ([2], [2]), ([3, 2], [2, 3]), ([4, 2], [2, 4]), ([2, 5], [2, 5]), ([6, 2], [6]), ([7], [7]), ([7], [7]), ([9, 7], [7, 9]), ([8, 10, 7], [7, 8, 10]), ([7], [7]), ([11, 12, 7, 7], [7, 11, 12]), ([13, 7], [7, 13]), ([7, 14], [7, 14]), ([15, 13], [15]), ([16], [16]), ([16], [16]), ([18, 16], [16, 18]), ([17, 19, 16], [16, 17, 19]), ([16], [16]), ([21, 16], [16, 21]), ([22, 16], [16, 22]), ([23, 23, 16], [16, 23]), ([20, 24, 16, 16], [16, 20, 24]), ([25, 16], [16, 25]), ([16, 26], [16, 26])])
def kotatsulaw06_DiskWraps.B6 : List Nat := [0, 1, 3, 7, 15, 31, 63, 127, 255, 255, 767, 2047, 255, 8191, 16383, 32767, 65535, 131071, 131071, 393215, 1048575, 131071, 2228223, 6422527, 14811135, 33554431, 67108863, 134217727]
theorem kotatsulaw06_DiskWraps.tab6 : rtab .any (opsOf Try.f6 6) = kotatsulaw06_DiskWraps.T6 := by kernel_rfl
theorem kotatsulaw06_DiskWraps.bits6 : waitsOk kotatsulaw06_DiskWraps.T6.2 kotatsulaw06_DiskWraps.B6 = true := by kernel_rfl
set_option maxHeartbeats 8000000 in
set_option maxRecDepth 100000 in
theorem kotatsulaw06_DiskWraps.calls (k : Nat) (a0 : Int) (A1 : Option Addr) (c1 : Nat) (l1 : List (S76)) (a2 : Int) (a3 : Int) (r : Bool) (w : World) (hr1 : Kd.C k76 w A1 l1.length l1) (hc1 : l1.length ≤ c1) (h : kotatsulaw06_DiskWraps.f k a0 l1 a2 a3 = some r) :
  Calls Try.prog 6 #[.int .u8 a0, .slice A1 l1.length c1, .int .u16 a2, .int .u8 a3] w fun e w' => e = .returned (.bool r) ∧ Below w.heap.size w w' := by
 have HR1 := Aside0.mk hr1
 have HC1 := Aside0.mk hc1
 clear hr1 hc1
 have HB := Aside0.mk (Below.refl w.heap.size w)
 have H : ((kotatsulaw06_awake.f k).bind fun t338 => (if t338 = true then ((kotatsulaw06_made.f k a0 l1).bind fun t339 => ((kotatsulaw06_own.f k t339).bind fun t342 => ((kotatsuref06_Wrap.f k t342).bind fun t345 => ((disk_Wrap.f k t339).bind fun bt348 => (if bt348.2 = true then (if (bt348.1.length : Int) = 65536 then (if 0 ≤ (t345.length : Int) then (if (t345.length : Int) ≤ (bt348.1.length : Int) then ((kotatsuref01_Same.f k (bt348.1.take ((t345.length : Int) : Int).toNat) t345).bind fun t357 => (if t357 = true then (if 0 ≤ (wrap64 (65536 - (t345.length : Int))) then (if (wrap64 (65536 - (t345.length : Int)) : Int).toNat ≤ 281474976710656 then ((kotatsuref01_Same.f k (bt348.1.drop ((t345.length : Int) : Int).toNat) (List.replicate (wrap64 (65536 - (t345.length : Int)) : Int).toNat 0)).bind fun t366 => (kotatsulaw06_DiskWraps.j0 k a2 a3 t339 t345 bt348.1 (!t366))) else (none)) else (none)) else (kotatsulaw06_DiskWraps.j0 k a2 a3 t339 t345 bt348.1 true))) else (none)) else (none)) else (kotatsulaw06_DiskWraps.j0 k a2 a3 t339 t345 bt348.1 true)) else (kotatsulaw06_DiskWraps.j0 k a2 a3 t339 t345 bt348.1 true)))))) else (some false))) = some r := h
 clear h
 replace H := Option.bind_eq_some_iff.mp H
 obtain ⟨t338, A50, H⟩ := H
 replace H : (if t338 = true then ((kotatsulaw06_made.f k a0 l1).bind fun t339 => ((kotatsulaw06_own.f k t339).bind fun t342 => ((kotatsuref06_Wrap.f k t342).bind fun t345 => ((disk_Wrap.f k t339).bind fun bt348 => (if bt348.2 = true then (if (bt348.1.length : Int) = 65536 then (if 0 ≤ (t345.length : Int) then (if (t345.length : Int) ≤ (bt348.1.length : Int) then ((kotatsuref01_Same.f k (bt348.1.take ((t345.length : Int) : Int).toNat) t345).bind fun t357 => (if t357 = true then (if 0 ≤ (wrap64 (65536 - (t345.length : Int))) then (if (wrap64 (65536 - (t345.length : Int)) : Int).toNat ≤ 281474976710656 then ((kotatsuref01_Same.f k (bt348.1.drop ((t345.length : Int) : Int).toNat) (List.replicate (wrap64 (65536 - (t345.length : Int)) : Int).toNat 0)).bind fun t366 => (kotatsulaw06_DiskWraps.j0 k a2 a3 t339 t345 bt348.1 (!t366))) else (none)) else (none)) else (kotatsulaw06_DiskWraps.j0 k a2 a3 t339 t345 bt348.1 true))) else (none)) else (none)) else (kotatsulaw06_DiskWraps.j0 k a2 a3 t339 t345 bt348.1 true)) else (kotatsulaw06_DiskWraps.j0 k a2 a3 t339 t345 bt348.1 true)))))) else (some false)) = some r := H
 have A5 := Aside0.mk A50
 clear A50
 by_cases c6 : t338 = true
 ·subst c6
  have H1 : ((kotatsulaw06_made.f k a0 l1).bind fun t339 => ((kotatsulaw06_own.f k t339).bind fun t342 => ((kotatsuref06_Wrap.f k t342).bind fun t345 => ((disk_Wrap.f k t339).bind fun bt348 => (if bt348.2 = true then (if (bt348.1.length : Int) = 65536 then (if 0 ≤ (t345.length : Int) then (if (t345.length : Int) ≤ (bt348.1.length : Int) then ((kotatsuref01_Same.f k (bt348.1.take ((t345.length : Int) : Int).toNat) t345).bind fun t357 => (if t357 = true then (if 0 ≤ (wrap64 (65536 - (t345.length : Int))) then (if (wrap64 (65536 - (t345.length : Int)) : Int).toNat ≤ 281474976710656 then ((kotatsuref01_Same.f k (bt348.1.drop ((t345.length : Int) : Int).toNat) (List.replicate (wrap64 (65536 - (t345.length : Int)) : Int).toNat 0)).bind fun t366 => (kotatsulaw06_DiskWraps.j0 k a2 a3 t339 t345 bt348.1 (!t366))) else (none)) else (none)) else (kotatsulaw06_DiskWraps.j0 k a2 a3 t339 t345 bt348.1 true))) else (none)) else (none)) else (kotatsulaw06_DiskWraps.j0 k a2 a3 t339 t345 bt348.1 true)) else (kotatsulaw06_DiskWraps.j0 k a2 a3 t339 t345 bt348.1 true)))))) = some r := by rw [if_pos rfl] at H; exact H
  clear H
  have H := H1
  clear H1
  replace H := Option.bind_eq_some_iff.mp H
  obtain ⟨t339, A70, H⟩ := H
  replace H : ((kotatsulaw06_own.f k t339).bind fun t342 => ((kotatsuref06_Wrap.f k t342).bind fun t345 => ((disk_Wrap.f k t339).bind fun bt348 => (if bt348.2 = true then (if (bt348.1.length : Int) = 65536 then (if 0 ≤ (t345.length : Int) then (if (t345.length : Int) ≤ (bt348.1.length : Int) then ((kotatsuref01_Same.f k (bt348.1.take ((t345.length : Int) : Int).toNat) t345).bind fun t357 => (if t357 = true then (if 0 ≤ (wrap64 (65536 - (t345.length : Int))) then (if (wrap64 (65536 - (t345.length : Int)) : Int).toNat ≤ 281474976710656 then ((kotatsuref01_Same.f k (bt348.1.drop ((t345.length : Int) : Int).toNat) (List.replicate (wrap64 (65536 - (t345.length : Int)) : Int).toNat 0)).bind fun t366 => (kotatsulaw06_DiskWraps.j0 k a2 a3 t339 t345 bt348.1 (!t366))) else (none)) else (none)) else (kotatsulaw06_DiskWraps.j0 k a2 a3 t339 t345 bt348.1 true))) else (none)) else (none)) else (kotatsulaw06_DiskWraps.j0 k a2 a3 t339 t345 bt348.1 true)) else (kotatsulaw06_DiskWraps.j0 k a2 a3 t339 t345 bt348.1 true))))) = some r := H
  have A7 := Aside0.mk A70
  clear A70
  replace H := Option.bind_eq_some_iff.mp H
  obtain ⟨t342, A80, H⟩ := H
  replace H : ((kotatsuref06_Wrap.f k t342).bind fun t345 => ((disk_Wrap.f k t339).bind fun bt348 => (if bt348.2 = true then (if (bt348.1.length : Int) = 65536 then (if 0 ≤ (t345.length : Int) then (if (t345.length : Int) ≤ (bt348.1.length : Int) then ((kotatsuref01_Same.f k (bt348.1.take ((t345.length : Int) : Int).toNat) t345).bind fun t357 => (if t357 = true then (if 0 ≤ (wrap64 (65536 - (t345.length : Int))) then (if (wrap64 (65536 - (t345.length : Int)) : Int).toNat ≤ 281474976710656 then ((kotatsuref01_Same.f k (bt348.1.drop ((t345.length : Int) : Int).toNat) (List.replicate (wrap64 (65536 - (t345.length : Int)) : Int).toNat 0)).bind fun t366 => (kotatsulaw06_DiskWraps.j0 k a2 a3 t339 t345 bt348.1 (!t366))) else (none)) else (none)) else (kotatsulaw06_DiskWraps.j0 k a2 a3 t339 t345 bt348.1 true))) else (none)) else (none)) else (kotatsulaw06_DiskWraps.j0 k a2 a3 t339 t345 bt348.1 true)) else (kotatsulaw06_DiskWraps.j0 k a2 a3 t339 t345 bt348.1 true)))) = some r := H
  have A8 := Aside0.mk A80
  clear A80
  replace H := Option.bind_eq_some_iff.mp H
  obtain ⟨t345, A90, H⟩ := H
  replace H : ((disk_Wrap.f k t339).bind fun bt348 => (if bt348.2 = true then (if (bt348.1.length : Int) = 65536 then (if 0 ≤ (t345.length : Int) then (if (t345.length : Int) ≤ (bt348.1.length : Int) then ((kotatsuref01_Same.f k (bt348.1.take ((t345.length : Int) : Int).toNat) t345).bind fun t357 => (if t357 = true then (if 0 ≤ (wrap64 (65536 - (t345.length : Int))) then (if (wrap64 (65536 - (t345.length : Int)) : Int).toNat ≤ 281474976710656 then ((kotatsuref01_Same.f k (bt348.1.drop ((t345.length : Int) : Int).toNat) (List.replicate (wrap64 (65536 - (t345.length : Int)) : Int).toNat 0)).bind fun t366 => (kotatsulaw06_DiskWraps.j0 k a2 a3 t339 t345 bt348.1 (!t366))) else (none)) else (none)) else (kotatsulaw06_DiskWraps.j0 k a2 a3 t339 t345 bt348.1 true))) else (none)) else (none)) else (kotatsulaw06_DiskWraps.j0 k a2 a3 t339 t345 bt348.1 true)) else (kotatsulaw06_DiskWraps.j0 k a2 a3 t339 t345 bt348.1 true))) = some r := H
  have A9 := Aside0.mk A90
  clear A90
  replace H := Option.bind_eq_some_iff.mp H
  obtain ⟨⟨t348, t349⟩, A100, H⟩ := H
  replace H : (if t349 = true then (if (t348.length : Int) = 65536 then (if 0 ≤ (t345.length : Int) then (if (t345.length : Int) ≤ (t348.length : Int) then ((kotatsuref01_Same.f k (t348.take ((t345.length : Int) : Int).toNat) t345).bind fun t357 => (if t357 = true then (if 0 ≤ (wrap64 (65536 - (t345.length : Int))) then (if (wrap64 (65536 - (t345.length : Int)) : Int).toNat ≤ 281474976710656 then ((kotatsuref01_Same.f k (t348.drop ((t345.length : Int) : Int).toNat) (List.replicate (wrap64 (65536 - (t345.length : Int)) : Int).toNat 0)).bind fun t366 => (kotatsulaw06_DiskWraps.j0 k a2 a3 t339 t345 t348 (!t366))) else (none)) else (none)) else (kotatsulaw06_DiskWraps.j0 k a2 a3 t339 t345 t348 true))) else (none)) else (none)) else (kotatsulaw06_DiskWraps.j0 k a2 a3 t339 t345 t348 true)) else (kotatsulaw06_DiskWraps.j0 k a2 a3 t339 t345 t348 true)) = some r := H
  have A10 := Aside0.mk A100
  clear A100
  have HC11 := Aside0.mk H
  clear H
  go_enter Try.func6, Try.ntmps6
  go_upto_region 6 with (first | ((with_reducible refine gate_callee (f := 9) rfl ?_); refine goesL_ (some 20) rfl rfl Try.func9 (by kernel_rfl) rfl #[] rfl (by (try simp only [List.map_toArray, List.map_cons, List.map_nil]); first | done | rfl | (simp only [List.length_drop, List.length_take]; rfl)) ?_; (with_reducible refine (kotatsulaw06_awake.calls k  true _ A5.out).mono ?_); rintro e w12 ⟨rfl, hb⟩; refine ⟨_, rfl, ?_⟩; have n0_ := Aside0.mk (below_step (by repeat (first | (with_reducible first | exact HB.out | apply below_alloc | apply pw_below_drewN | apply below_drew1) | exact HB.out)) hb); clear HB; have HB := n0_; clear n0_; (try clear hb); (try clear hb2); (try clear hk); (try clear hi)) | ((with_reducible refine gate_callee (f := 20) rfl ?_); refine goesL_ (some 24) rfl rfl Try.func20 (by kernel_rfl) rfl #[.int .u8 a0, .slice A1 l1.length c1] rfl (by (try simp only [List.map_toArray, List.map_cons, List.map_nil]); first | done | rfl | (simp only [List.length_drop, List.length_take]; rfl)) ?_; (with_reducible refine (kotatsulaw06_made.calls k a0 _ _ l1 t339 _ ?side1 ?side2 A7.out).mono ?_); (case side1 => repeat (first | exact (Kd.C_below HR1.out HB.out) | (with_reducible refine Kd.C_alloc ?_ _) | (with_reducible refine Kd.C_drewN ?_ _) | (with_reducible refine Kd.C_drew ?_))); (case side2 => exact HC1.out); rintro e w13 ⟨v340, rfl, ho0, hb⟩; refine ⟨_, rfl, ?_⟩; have n0_ := Aside0.mk (Kd.N_lower (Kd.N_mono (ok' := fun k_ => True) ho0 (fun k_ hk_ => trivial)) (below_size (by repeat (first | (with_reducible first | exact HB.out | apply below_alloc | apply pw_below_drewN | apply below_drew1) | exact HB.out)))); have n1_ := Aside0.mk (below_step (by repeat (first | (with_reducible first | exact HB.out | apply below_alloc | apply pw_below_drewN | apply below_drew1) | exact HB.out)) hb); clear HB; have HO341 := n0_; have HB := n1_; clear n0_ n1_; (try clear hb); (try clear hb2); (try clear hk); (try clear hi); (try clear ho0); obtain ⟨Ao14, co14, eo14⟩ := Kd.N_slice HO341.out; subst eo14) | ((with_reducible refine gate_callee (f := 19) rfl ?_); refine goesL_ (some 26) rfl rfl Try.func19 (by kernel_rfl) rfl #[.slice Ao14 t339.length co14] rfl (by (try simp only [List.map_toArray, List.map_cons, List.map_nil]); first | done | rfl | (simp only [List.length_drop, List.length_take]; rfl)) ?_; (with_reducible refine (kotatsulaw06_own.calls k (fun k_ => True) _ _ t339 t342 _ ?side1 A8.out).mono ?_); (case side1 => exact Kd.N_V (HO341.out)); rintro e w15 ⟨v343, rfl, ho0, hb⟩; refine ⟨_, rfl, ?_⟩; have n0_ := Aside0.mk (Kd.N_elder' (by (with_reducible repeat (first | apply Kd.N_alloc | apply Kd.N_drewN | apply Kd.N_drew)); exact HO341.out) (Kd.N_base ho0) hb); have n1_ := Aside0.mk (Kd.N_lower (Kd.N_mono (ok' := fun k_ => True) ho0 (fun k_ hk_ => trivial)) (below_size (by repeat (first | (with_reducible first | exact HB.out | apply below_alloc | apply pw_below_drewN | apply below_drew1) | exact HB.out)))); have n2_ := Aside0.mk (below_step (by repeat (first | (with_reducible first | exact HB.out | apply below_alloc | apply pw_below_drewN | apply below_drew1) | exact HB.out)) hb); clear HO341; clear HB; have HO341 := n0_; have HO344 := n1_; have HB := n2_; clear n0_ n1_ n2_; (try clear hb); (try clear hb2); (try clear hk); (try clear hi); (try clear ho0); obtain ⟨Ao16, co16, eo16⟩ := Kd.N_slice HO344.out; subst eo16) | ((with_reducible refine gate_callee (f := 18) rfl ?_); refine goesL_ (some 27) rfl rfl Try.func18 (by kernel_rfl) rfl #[.slice Ao16 t342.length co16] rfl (by (try simp only [List.map_toArray, List.map_cons, List.map_nil]); first | done | rfl | (simp only [List.length_drop, List.length_take]; rfl)) ?_; (with_reducible refine (kotatsuref06_Wrap.calls k (fun k_ => True) _ _ t342 t345 _ ?side1 A9.out).mono ?_); (case side1 => exact Kd.N_V (HO344.out)); rintro e w17 ⟨v346, rfl, ho0, hb⟩; refine ⟨_, rfl, ?_⟩; have n0_ := Aside0.mk (Kd.N_elder' (by (with_reducible repeat (first | apply Kd.N_alloc | apply Kd.N_drewN | apply Kd.N_drew)); exact HO341.out) (Kd.R_base ho0) hb); have n1_ := Aside0.mk (Kd.N_elder' (by (with_reducible repeat (first | apply Kd.N_alloc | apply Kd.N_drewN | apply Kd.N_drew)); exact HO344.out) (Kd.R_base ho0) hb); have n2_ := Aside0.mk (Kd.R_lower (Kd.R_mono (ok' := fun k_ => True) ho0 (fun _ hk_ => trivial)) (below_size (by repeat (first | (with_reducible first | exact HB.out | apply below_alloc | apply pw_below_drewN | apply below_drew1) | exact HB.out)))); have n3_ := Aside0.mk (below_step (by repeat (first | (with_reducible first | exact HB.out | apply below_alloc | apply pw_below_drewN | apply below_drew1) | exact HB.out)) hb); clear HO341; clear HO344; clear HB; have HO341 := n0_; have HO344 := n1_; have HO347 := n2_; have HB := n3_; clear n0_ n1_ n2_ n3_; (try clear hb); (try clear hb2); (try clear hk); (try clear hi); (try clear ho0)) | ((with_reducible refine gate_callee (f := 24) rfl ?_); refine goesL_ (some 30) rfl rfl Try.func24 (by kernel_rfl) rfl #[.slice Ao14 t339.length co14] rfl (by (try simp only [List.map_toArray, List.map_cons, List.map_nil]); first | done | rfl | (simp only [List.length_drop, List.length_take]; rfl)) ?_; (with_reducible refine (disk_Wrap.calls k _ _ t339 t348 t349 _ ?side1 ?side2 A10.out).mono ?_); (case side1 => repeat (first | exact (Kd.N_reads' HO341.out).2.2 | (with_reducible refine Kd.C_alloc ?_ _) | (with_reducible refine Kd.C_drewN ?_ _) | (with_reducible refine Kd.C_drew ?_))); (case side2 => exact (Kd.N_reads' HO341.out).2.1); rintro e w18 ⟨v350, rfl, ho0, hb⟩; refine ⟨_, rfl, ?_⟩; have n0_ := Aside0.mk (Kd.N_elder' (by (with_reducible repeat (first | apply Kd.N_alloc | apply Kd.N_drewN | apply Kd.N_drew)); exact HO341.out) (Kd.R_base ho0) hb); have n1_ := Aside0.mk (Kd.N_elder' (by (with_reducible repeat (first | apply Kd.N_alloc | apply Kd.N_drewN | apply Kd.N_drew)); exact HO344.out) (Kd.R_base ho0) hb); have n2_ := Aside0.mk (Kd.R_elder' (by (with_reducible repeat (first | apply Kd.R_alloc | apply Kd.R_drewN | apply Kd.R_drew)); exact HO347.out) (Kd.R_base ho0) hb); have n3_ := Aside0.mk (Kd.R_lower (Kd.R_new' ho0 (Kd.R_lt (by (with_reducible repeat (first | apply Kd.R_alloc | apply Kd.R_drewN | apply Kd.R_drew)); exact HO347.out))) (below_size (by repeat (first | (with_reducible first | exact HB.out | apply below_alloc | apply pw_below_drewN | apply below_drew1) | exact HB.out)))); have n4_ := Aside0.mk (below_step (by repeat (first | (with_reducible first | exact HB.out | apply below_alloc | apply pw_below_drewN | apply below_drew1) | exact HB.out)) hb); clear HO341; clear HO344; clear HO347; clear HB; have HO341 := n0_; have HO344 := n1_; have HO347 := n2_; have HO351 := n3_; have HB := n4_; clear n0_ n1_ n2_ n3_ n4_; (try clear hb); (try clear hb2); (try clear hk); (try clear hi); (try clear ho0)))
  (try simp only [Act.put, List.setIfInBounds_toArray, List.set_cons_zero, List.set_cons_succ])
  go_cut [60] (fun v60 wc => ∃ (kq : Nat) (x60_10 : Bool), v60 = .bool x60_10 ∧ Aside0 (kotatsulaw06_DiskWraps.j0 kq a2 a3 t339 t345 t348 x60_10 = some r) ∧ Aside0 (kq ≤ k) ∧ Aside0 (Kd.N k73 73 wc w.heap.size (fun k_ => some k_ ≠ (v346 : Value).ownBlock ∧ some k_ ≠ (v350 : Value).ownBlock) (.slice Ao14 t339.length co14) t339) ∧ Aside0 (Kd.R (Kd.int .u8) 5 wc w.heap.size (fun k_ => some k_ ≠ (v350 : Value).ownBlock) v346 t345) ∧ Aside0 (Kd.R (Kd.int .u8) 5 wc w.heap.size (fun k_ => some k_ ≠ (v346 : Value).ownBlock) v350 t348) ∧ Aside0 (Below w.heap.size w wc))
  case first =>
   have H := HC11.out
   clear HC11
   by_cases c19 : t349 = true
   ·subst c19
    have H1 : (if (t348.length : Int) = 65536 then (if 0 ≤ (t345.length : Int) then (if (t345.length : Int) ≤ (t348.length : Int) then ((kotatsuref01_Same.f k (t348.take ((t345.length : Int) : Int).toNat) t345).bind fun t357 => (if t357 = true then (if 0 ≤ (wrap64 (65536 - (t345.length : Int))) then (if (wrap64 (65536 - (t345.length : Int)) : Int).toNat ≤ 281474976710656 then ((kotatsuref01_Same.f k (t348.drop ((t345.length : Int) : Int).toNat) (List.replicate (wrap64 (65536 - (t345.length : Int)) : Int).toNat 0)).bind fun t366 => (kotatsulaw06_DiskWraps.j0 k a2 a3 t339 t345 t348 (!t366))) else (none)) else (none)) else (kotatsulaw06_DiskWraps.j0 k a2 a3 t339 t345 t348 true))) else (none)) else (none)) else (kotatsulaw06_DiskWraps.j0 k a2 a3 t339 t345 t348 true)) = some r := by rw [if_pos rfl] at H; exact H
    clear H
    have H := H1
    clear H1
    by_cases c20 : (t348.length : Int) = 65536
    ·rw [if_pos c20] at H
     have c20b0 : ((t348.length : Int) == 65536) = true := beq_iff_eq.mpr c20
     have c20b1 : ((t348.length : Int) != 65536) = false := bne_eq_false_iff_eq.mpr c20
     clear c20
     (first | rw [c20b0] | (simp only [i64_w, i32_w]; rw [c20b0]) | skip)
     by_cases c21 : 0 ≤ (t345.length : Int)
     ·rw [if_pos c21] at H
      have c21b0 := eq_true c21
      have c21b1 : decide (0 ≤ (t345.length : Int)) = true := decide_eq_true c21
      clear c21
      by_cases c22 : (t345.length : Int) ≤ (t348.length : Int)
      ·rw [if_pos c22] at H
       have c22b0 := eq_true c22
       have c22b1 : decide ((t345.length : Int) ≤ (t348.length : Int)) = true := decide_eq_true c22
       clear c22
       obtain ⟨y352, hy352⟩ : ∃ y_ : List Int, y_ = (t348.take ((t345.length : Int) : Int).toNat) := ⟨_, rfl⟩
       replace H : ((kotatsuref01_Same.f k y352 t345).bind fun t357 => (if t357 = true then (if 0 ≤ (wrap64 (65536 - (t345.length : Int))) then (if (wrap64 (65536 - (t345.length : Int)) : Int).toNat ≤ 281474976710656 then ((kotatsuref01_Same.f k (t348.drop ((t345.length : Int) : Int).toNat) (List.replicate (wrap64 (65536 - (t345.length : Int)) : Int).toNat 0)).bind fun t366 => (kotatsulaw06_DiskWraps.j0 k a2 a3 t339 t345 t348 (!t366))) else (none)) else (none)) else (kotatsulaw06_DiskWraps.j0 k a2 a3 t339 t345 t348 true))) = some r := by first | (rw [hy352]; with_reducible exact H) | (have H2_ := (Option.bind_some _ _).symm.trans H; rw [hy352]; with_reducible exact H2_) | (have H2_ := (Option.bind_some _ _).symm.trans H; with_reducible exact H2_) | with_reducible exact H | (rw [hy352]; exact H) | exact H
       have Ny352 := Aside0.mk hy352
       clear hy352
       replace H := Option.bind_eq_some_iff.mp H
       obtain ⟨t357, A230, H⟩ := H
       replace H : (if t357 = true then (if 0 ≤ (wrap64 (65536 - (t345.length : Int))) then (if (wrap64 (65536 - (t345.length : Int)) : Int).toNat ≤ 281474976710656 then ((kotatsuref01_Same.f k (t348.drop ((t345.length : Int) : Int).toNat) (List.replicate (wrap64 (65536 - (t345.length : Int)) : Int).toNat 0)).bind fun t366 => (kotatsulaw06_DiskWraps.j0 k a2 a3 t339 t345 t348 (!t366))) else (none)) else (none)) else (kotatsulaw06_DiskWraps.j0 k a2 a3 t339 t345 t348 true)) = some r := H
       have A23 := Aside0.mk A230
       clear A230
       by_cases c24 : t357 = true
       ·subst c24
        have H1 : (if 0 ≤ (wrap64 (65536 - (t345.length : Int))) then (if (wrap64 (65536 - (t345.length : Int)) : Int).toNat ≤ 281474976710656 then ((kotatsuref01_Same.f k (t348.drop ((t345.length : Int) : Int).toNat) (List.replicate (wrap64 (65536 - (t345.length : Int)) : Int).toNat 0)).bind fun t366 => (kotatsulaw06_DiskWraps.j0 k a2 a3 t339 t345 t348 (!t366))) else (none)) else (none)) = some r := by rw [if_pos rfl] at H; exact H
        clear H
        have H := H1
        clear H1
        have c25b0 := eq_true (of_decide_eq_true (by first | (with_reducible assumption) | assumption) : 0 ≤ (t345.length : Int))
        have c26b0 := eq_true (of_decide_eq_true (by first | (with_reducible assumption) | assumption) : (t345.length : Int) ≤ (t348.length : Int))
        obtain ⟨y358, hy358⟩ : ∃ y_ : List Int, y_ = (t348.drop ((t345.length : Int) : Int).toNat) := ⟨_, rfl⟩
        replace H : (if 0 ≤ (wrap64 (65536 - (t345.length : Int))) then (if (wrap64 (65536 - (t345.length : Int)) : Int).toNat ≤ 281474976710656 then ((kotatsuref01_Same.f k y358 (List.replicate (wrap64 (65536 - (t345.length : Int)) : Int).toNat 0)).bind fun t366 => (kotatsulaw06_DiskWraps.j0 k a2 a3 t339 t345 t348 (!t366))) else (none)) else (none)) = some r := by first | (rw [hy358]; with_reducible exact H) | (have H2_ := (Option.bind_some _ _).symm.trans H; rw [hy358]; with_reducible exact H2_) | (have H2_ := (Option.bind_some _ _).symm.trans H; with_reducible exact H2_) | with_reducible exact H | (rw [hy358]; exact H) | exact H
        have Ny358 := Aside0.mk hy358
        clear hy358
        obtain ⟨ji27, hji27⟩ : ∃ j_ : Int, (wrap64 (65536 - (t345.length : Int))) = j_ := ⟨_, rfl⟩
        replace H : (if 0 ≤ (ji27) then (if (ji27 : Int).toNat ≤ 281474976710656 then ((kotatsuref01_Same.f k y358 (List.replicate (ji27 : Int).toNat 0)).bind fun t366 => (kotatsulaw06_DiskWraps.j0 k a2 a3 t339 t345 t348 (!t366))) else (none)) else (none)) = some r := by first | (rw [hji27] at H; exact H) | (simp only [hji27] at H ⊢; exact H)
        (try rw [hji27] at A23)
        have hji27w : (IntKind.i64.wrap (65536 - (t345.length : Int))) = ji27 := (i64_w _).trans hji27
        by_cases c28 : 0 ≤ (ji27)
        ·rw [if_pos c28] at H
         have c28b0 := eq_true c28
         have c28b1 : decide (0 ≤ (ji27)) = true := decide_eq_true c28
         clear c28
         by_cases c29 : (ji27 : Int).toNat ≤ 281474976710656
         ·rw [if_pos c29] at H
          have c29b0 := eq_true c29
          have c29b1 : decide ((ji27 : Int).toNat ≤ 281474976710656) = true := decide_eq_true c29
          clear c29
          obtain ⟨y363, hy363⟩ : ∃ y_ : List Int, y_ = (List.replicate (ji27 : Int).toNat 0) := ⟨_, rfl⟩
          replace H : ((kotatsuref01_Same.f k y358 y363).bind fun t366 => (kotatsulaw06_DiskWraps.j0 k a2 a3 t339 t345 t348 (!t366))) = some r := by first | (rw [hy363]; with_reducible exact H) | (have H2_ := (Option.bind_some _ _).symm.trans H; rw [hy363]; with_reducible exact H2_) | (have H2_ := (Option.bind_some _ _).symm.trans H; with_reducible exact H2_) | with_reducible exact H | (rw [hy363]; exact H) | exact H
          have Ny363 := Aside0.mk hy363
          clear hy363
          replace H := Option.bind_eq_some_iff.mp H
          obtain ⟨t366, A300, H⟩ := H
          replace H : (kotatsulaw06_DiskWraps.j0 k a2 a3 t339 t345 t348 (!t366)) = some r := H
          have A30 := Aside0.mk A300
          clear A300
          have H' := Aside0.mk H
          clear H
          try go_wp2
          have n0_ := Aside0.mk (Kd.N_drew HO341.out)
          have n1_ := Aside0.mk (Kd.N_drew HO344.out)
          have n2_ := Aside0.mk (Kd.R_drew HO347.out)
          have n3_ := Aside0.mk (Kd.R_drew HO351.out)
          have n4_ := Aside0.mk (below_drew1 HB.out)
          clear HO341
          clear HO344
          clear HO347
          clear HO351
          clear HB
          have HO341 := n0_
          have HO344 := n1_
          have HO347 := n2_
          have HO351 := n3_
          have HB := n4_
          clear n0_ n1_ n2_ n3_ n4_
          obtain ⟨Ao32, co32, eo32⟩ := Kd.R_slice HO351.out
          (first | subst eo32 | (injection eo32 with f1_ f2_ f3_; have f4_ := f1_.symm; have f5_ := f3_.symm; clear f1_ f2_ f3_; subst f4_; subst f5_))
          obtain ⟨Ao33, co33, eo33⟩ := Kd.R_slice HO347.out
          (first | subst eo33 | (injection eo33 with f1_ f2_ f3_; have f4_ := f1_.symm; have f5_ := f3_.symm; clear f1_ f2_ f3_; subst f4_; subst f5_))
          have q34 : ((t345.length : Int) : Int) ≤ ((t348.length : Int) : Int) := of_decide_eq_true (by first | (with_reducible assumption) | assumption)
          obtain ⟨i034, hi034, _, hsz34, _⟩ := info_parts info5
          have hroom34 : t348.length ≤ co32 := (Kd.R_reads' HO351.out).2.1
          have hC34 : Kd.F (Kd.int .u8) _ _ Ao32 t348.length t348 := (Kd.V_at (base := w.heap.size) (Kd.R_V (Kd.R_apart' (Kd.R_apart' (HO351.out) (Kd.N_typed HO341.out) (by decide)) (Kd.N_typed HO344.out) (by decide)))).2.2
          have hcut34 := cut_to (P := Try.prog) 22 5 .i64 Try.underlying22 hi034 Ao32 t348.length co32 (t345.length : Int) (of_decide_eq_true (by first | (with_reducible assumption) | assumption)) q34 hroom34
          have hr34 := Kd.F_take (m := ((t345.length : Int) : Int).toNat) hC34 (by omega)
          have hy34 : y352.length = ((t345.length : Int) : Int).toNat := (by rw [Ny352.out, List.length_take]; omega)
          rw [← Ny352.out] at hr34
          rw [← hy34] at hcut34
          have HO356 := Aside0.mk (show Kd.V (Kd.int .u8) 5 _ w.heap.size _ (.slice Ao32 y352.length co32) y352 from Kd.V_mk (by omega) hr34)
          have HC356 := Aside0.mk (show y352.length ≤ co32 from by omega)
          clear hr34 hC34 hroom34 hi034 hsz34
          have KY34 := Aside0.mk hy34
          clear hy34
          replace q34 := eq_true q34
          refine start_ (n := 28) (S := fun w' => True) (ds := []) #[false, false, false, false, false, false, false, false, false, false, false, false, false, false, false, false, false, false, false, false, false, false, false, false, false, false, false, false] (by kernel_rfl) rfl rfl trivial (fun hHeld => ?_); refine with_tabW kotatsulaw06_DiskWraps.tab6 kotatsulaw06_DiskWraps.bits6 (fun HT_ HW_ => ?_)
          generalize w18.drew = w31 at HO341 HO344 HO347 HO351 HB HO356 hHeld ⊢
          refine pure_ (i := 0) (N := some 33) (v := ?_) (a' := ?_) #[true, false, false, false, false, false, false, false, false, false, false, false, false, false, false, false, false, false, false, false, false, false, false, false, false, false, false, false] rfl rfl (any_of HT_.out (by kernel_rfl)) (fun _ _ _ h => h) (Or.inl ⟨by rfl, ?_⟩) ?_ ?_
          rotate_left
          ·intro w'
           go_simp
           with_reducible rfl
          rotate_left
          ·simp only [Act.put, List.setIfInBounds_toArray, List.set_cons_zero, List.set_cons_succ, i64_w, i32_w]
           rfl
          refine pure_ (i := 1) (N := some 34) (v := ?_) (a' := ?_) #[true, true, false, false, false, false, false, false, false, false, false, false, false, false, false, false, false, false, false, false, false, false, false, false, false, false, false, false] rfl rfl (any_of HT_.out (by kernel_rfl)) (fun _ _ _ h => h) (Or.inl ⟨by rfl, ?_⟩) ?_ ?_
          rotate_left
          ·intro w'
           go_simp
           with_reducible rfl
          rotate_left
          ·simp only [Act.put, List.setIfInBounds_toArray, List.set_cons_zero, List.set_cons_succ, i64_w, i32_w]
           rfl
          refine pure_ (i := 2) (N := some 35) (v := ?_) (a' := ?_) #[true, true, true, false, false, false, false, false, false, false, false, false, false, false, false, false, false, false, false, false, false, false, false, false, false, false, false, false] rfl rfl (any_of HT_.out (by kernel_rfl)) (fun _ _ _ h => h) (Or.inl ⟨by rfl, ?_⟩) ?_ ?_
          rotate_left
          ·intro w'
           go_simp
           with_reducible rfl
          rotate_left
          ·simp only [Act.put, List.setIfInBounds_toArray, List.set_cons_zero, List.set_cons_succ, i64_w, i32_w]
           rfl
          refine pure_ (i := 3) (N := some 36) (v := ?_) (a' := ?_) #[true, true, true, true, false, false, false, false, false, false, false, false, false, false, false, false, false, false, false, false, false, false, false, false, false, false, false, false] rfl rfl (any_of HT_.out (by kernel_rfl)) (fun _ _ _ h => h) (Or.inl ⟨by rfl, ?_⟩) ?_ ?_
          rotate_left
          ·intro w'
           go_simp
           with_reducible rfl
          rotate_left
          ·simp only [Act.put, List.setIfInBounds_toArray, List.set_cons_zero, List.set_cons_succ, i64_w, i32_w]
           rfl
          refine pure_ (i := 4) (N := some 37) (v := ?_) (a' := ?_) #[true, true, true, true, true, false, false, false, false, false, false, false, false, false, false, false, false, false, false, false, false, false, false, false, false, false, false, false] rfl rfl (any_of HT_.out (by kernel_rfl)) (fun _ _ _ h => h) (Or.inl ⟨by rfl, ?_⟩) ?_ ?_
          rotate_left
          ·intro w'
           go_simp
           with_reducible rfl
          rotate_left
          ·simp only [Act.put, List.setIfInBounds_toArray, List.set_cons_zero, List.set_cons_succ, i64_w, i32_w]
           rfl
          refine pure_ (i := 5) (N := some 38) (v := ?_) (a' := ?_) #[true, true, true, true, true, true, false, false, false, false, false, false, false, false, false, false, false, false, false, false, false, false, false, false, false, false, false, false] rfl rfl (any_of HT_.out (by kernel_rfl)) (fun _ _ _ h => h) (Or.inl ⟨by rfl, ?_⟩) ?_ ?_
          rotate_left
          ·intro w'
           go_simp
           with_reducible rfl
          rotate_left
          ·simp only [Act.put, List.setIfInBounds_toArray, List.set_cons_zero, List.set_cons_succ, i64_w, i32_w]
           rfl
          refine pure_ (i := 6) (N := some 39) (v := ?_) (a' := ?_) #[true, true, true, true, true, true, true, false, false, false, false, false, false, false, false, false, false, false, false, false, false, false, false, false, false, false, false, false] rfl rfl (any_of HT_.out (by kernel_rfl)) (fun _ _ _ h => h) (Or.inl ⟨by rfl, ?_⟩) ?_ ?_
          rotate_left
          ·intro w'
           go_simp
           with_reducible rfl
          rotate_left
          ·simp only [Act.put, List.setIfInBounds_toArray, List.set_cons_zero, List.set_cons_succ, i64_w, i32_w]
           rfl
          refine pure_ (i := 7) (N := some 40) (v := ?_) (a' := ?_) #[true, true, true, true, true, true, true, true, false, false, false, false, false, false, false, false, false, false, false, false, false, false, false, false, false, false, false, false] rfl rfl (any_of HT_.out (by kernel_rfl)) (fun _ _ _ h => h) (Or.inl ⟨by rfl, ?_⟩) ?_ ?_
          rotate_left
          ·intro w'
           go_simp
           with_reducible rfl
          rotate_left
          ·simp only [Act.put, List.setIfInBounds_toArray, List.set_cons_zero, List.set_cons_succ, i64_w, i32_w]
           rfl
          refine pure_ (i := 8) (N := some 41) (v := ?_) (a' := ?_) #[true, true, true, true, true, true, true, true, true, false, false, false, false, false, false, false, false, false, false, false, false, false, false, false, false, false, false, false] rfl rfl (any_of HT_.out (by kernel_rfl)) (fun _ _ _ h => h) (Or.inl ⟨by rfl, ?_⟩) ?_ ?_
          rotate_left
          ·intro w'
           go_simp
           with_reducible rfl
          rotate_left
          ·simp only [Act.put, List.setIfInBounds_toArray, List.set_cons_zero, List.set_cons_succ, i64_w, i32_w]
           rfl
          refine pure_ (i := 9) (N := some 42) (v := ?_) (a' := ?_) #[true, true, true, true, true, true, true, true, true, true, false, false, false, false, false, false, false, false, false, false, false, false, false, false, false, false, false, false] rfl rfl (any_of HT_.out (by kernel_rfl)) (fun _ _ _ h => h) (Or.inl ⟨by rfl, ?_⟩) ?_ ?_
          rotate_left
          ·intro w'
           go_simp
           with_reducible rfl
          rotate_left
          ·simp only [Act.put, List.setIfInBounds_toArray, List.set_cons_zero, List.set_cons_succ, i64_w, i32_w]
           rfl
          refine pure_ (i := 10) (N := some 43) (v := ?_) (a' := ?_) #[true, true, true, true, true, true, true, true, true, true, true, false, false, false, false, false, false, false, false, false, false, false, false, false, false, false, false, false] rfl rfl (any_of HT_.out (by kernel_rfl)) (fun _ _ _ h => h) (Or.inl ⟨by rfl, ?_⟩) ?_ ?_
          rotate_left
          ·intro w'
           go_simp
           with_reducible rfl
          rotate_left
          ·simp only [Act.put, List.setIfInBounds_toArray, List.set_cons_zero, List.set_cons_succ, i64_w, i32_w]
           rfl
          refine pure_ (i := 11) (N := some 44) (v := ?_) (a' := ?_) #[true, true, true, true, true, true, true, true, true, true, true, true, false, false, false, false, false, false, false, false, false, false, false, false, false, false, false, false] rfl rfl (any_of HT_.out (by kernel_rfl)) (fun _ _ _ h => h) (Or.inl ⟨by rfl, ?_⟩) ?_ ?_
          rotate_left
          ·intro w'
           go_simp
           with_reducible rfl
          rotate_left
          ·simp only [Act.put, List.setIfInBounds_toArray, List.set_cons_zero, List.set_cons_succ, i64_w, i32_w]
           rfl
          refine pure_ (i := 12) (N := some 45) (v := ?_) (a' := ?_) #[true, true, true, true, true, true, true, true, true, true, true, true, true, false, false, false, false, false, false, false, false, false, false, false, false, false, false, false] rfl rfl (any_of HT_.out (by kernel_rfl)) (fun _ _ _ h => h) (Or.inl ⟨by rfl, ?_⟩) ?_ ?_
          rotate_left
          ·intro w'
           go_simp
           with_reducible rfl
          rotate_left
          ·simp only [Act.put, List.setIfInBounds_toArray, List.set_cons_zero, List.set_cons_succ, i64_w, i32_w]
           rfl
          refine one_ (i := 13) (N := some 46) #[true, true, true, true, true, true, true, true, true, true, true, true, true, true, false, false, false, false, false, false, false, false, false, false, false, false, false, false] rfl rfl (one_of HT_.out (by kernel_rfl)) (by decide) (fun K hK => ?_)
          refine goes_ Try.func14 (by kernel_rfl) rfl #[.slice Ao32 y352.length co32, .slice Ao33 t345.length co33] (by rfl) rfl rfl (by (try simp only [List.map_toArray, List.map_cons, List.map_nil]); first | done | rfl | (simp only [List.length_drop, List.length_take]; rfl)) ?_
          with_reducible refine (kotatsuref01_Same.calls k _ _ y352 _ _ t345 true _ ?side1 ?side2 ?side3 ?side4 A23.out).mono ?_
          (case side1 => repeat (first | exact (Kd.V_reads' HO356.out).2.2 | (with_reducible refine Kd.C_alloc ?_ _) | (with_reducible refine Kd.C_drewN ?_ _) | (with_reducible refine Kd.C_drew ?_)))
          (case side2 => exact (Kd.V_reads' HO356.out).2.1)
          (case side3 => repeat (first | exact (Kd.R_reads' HO347.out).2.2 | (with_reducible refine Kd.C_alloc ?_ _) | (with_reducible refine Kd.C_drewN ?_ _) | (with_reducible refine Kd.C_drew ?_)))
          (case side4 => exact (Kd.R_reads' HO347.out).2.1)
          rintro e w' ⟨rfl, ⟨nd, rfl⟩⟩
          refine ⟨_, rfl, ?_⟩
          have q35 : ((t345.length : Int) : Int) ≤ ((t348.length : Int) : Int) := of_decide_eq_true (by first | (with_reducible assumption) | assumption)
          obtain ⟨i035, hi035, _, hsz35, _⟩ := info_parts info5
          have hroom35 : t348.length ≤ co32 := (Kd.R_reads' HO351.out).2.1
          have hC35 : Kd.F (Kd.int .u8) _ _ Ao32 t348.length t348 := (Kd.V_at (base := w.heap.size) (Kd.R_V (Kd.R_apart' (Kd.R_apart' (HO351.out) (Kd.N_typed HO341.out) (by decide)) (Kd.N_typed HO344.out) (by decide)))).2.2
          have q035 : (0 : Int) ≤ ((t345.length : Int) : Int) := of_decide_eq_true (by first | (with_reducible assumption) | assumption)
          have hcut35 := cut_from (P := Try.prog) 22 5 .i64 Try.underlying22 hi035 1 hsz35 Ao32 t348.length co32 (t345.length : Int) q035 q35
          have hr35 := Kd.F_cut (m := ((t345.length : Int) : Int).toNat) (c := co32) hC35 (by omega) hroom35
          obtain ⟨A35, hA35⟩ : ∃ A1, A1 = (if co32 = ((t345.length : Int) : Int).toNat then Ao32 else (Ao32 : Option Addr).map (·.add (((t345.length : Int) : Int).toNat * 1))) := ⟨_, rfl⟩
          obtain ⟨c35, hc35⟩ : ∃ c1, c1 = co32 - ((t345.length : Int) : Int).toNat := ⟨_, rfl⟩
          have hy35 : y358.length = t348.length - ((t345.length : Int) : Int).toNat := (by rw [Ny358.out, List.length_drop] <;> omega)
          rw [show (t348).drop ((t345.length : Int) : Int).toNat = y358 from Ny358.out.symm] at hr35
          replace hr35 : Kd.F (Kd.int .u8) _ _ A35 y358.length y358 := (by rw [hA35]; exact hr35)
          rw [← hy35, ← hA35, ← hc35] at hcut35
          have HO362 := Aside0.mk (show Kd.V (Kd.int .u8) 5 _ w.heap.size _ (.slice A35 y358.length c35) y358 from Kd.V_mk (by rw [hy35, hc35]; exact Nat.sub_le_sub_right hroom35 _) hr35)
          have HC362 := Aside0.mk (show y358.length ≤ c35 from by rw [hy35, hc35]; exact Nat.sub_le_sub_right hroom35 _)
          clear hr35 hC35 hroom35 hi035 hsz35 hc35
          have KY35 := Aside0.mk hy35
          have KA35 := Aside0.mk hA35
          clear hy35 hA35
          replace q35 := eq_true q35
          refine hK.out _ _ trivial (fun hHeld => ?_)
          clear hK K
          refine norm_ (a' := ?_) ?_ ?_
          rotate_left
          ·show Act.put _ (some 46) _ = _
           simp only [Act.put, List.setIfInBounds_toArray, List.set_cons_zero, List.set_cons_succ, i64_w, i32_w]
           rfl
          refine pure_ (i := 14) (N := some 47) (v := ?_) (a' := ?_) #[true, true, true, true, true, true, true, true, true, true, true, true, true, true, true, false, false, false, false, false, false, false, false, false, false, false, false, false] rfl rfl (any_of HT_.out (by kernel_rfl)) (fun _ _ _ h => h) (Or.inl ⟨by rfl, ?_⟩) ?_ ?_
          rotate_left
          ·intro w'
           go_simp
           with_reducible rfl
          rotate_left
          ·simp only [Act.put, List.setIfInBounds_toArray, List.set_cons_zero, List.set_cons_succ, i64_w, i32_w]
           rfl
          refine pure_ (i := 15) (N := some 48) (v := ?_) (a' := ?_) #[true, true, true, true, true, true, true, true, true, true, true, true, true, true, true, true, false, false, false, false, false, false, false, false, false, false, false, false] rfl rfl (any_of HT_.out (by kernel_rfl)) (fun _ _ _ h => h) (Or.inl ⟨by rfl, ?_⟩) ?_ ?_
          rotate_left
          ·intro w'
           go_simp
           with_reducible rfl
          rotate_left
          ·simp only [Act.put, List.setIfInBounds_toArray, List.set_cons_zero, List.set_cons_succ, i64_w, i32_w]
           rfl
          refine pure_ (i := 16) (N := some 49) (v := ?_) (a' := ?_) #[true, true, true, true, true, true, true, true, true, true, true, true, true, true, true, true, true, false, false, false, false, false, false, false, false, false, false, false] rfl rfl (any_of HT_.out (by kernel_rfl)) (fun _ _ _ h => h) (Or.inl ⟨by rfl, ?_⟩) ?_ ?_
          rotate_left
          ·intro w'
           go_simp
           with_reducible rfl
          rotate_left
          ·simp only [Act.put, List.setIfInBounds_toArray, List.set_cons_zero, List.set_cons_succ, i64_w, i32_w]
           rfl
          refine pure_ (i := 17) (N := some 50) (v := ?_) (a' := ?_) #[true, true, true, true, true, true, true, true, true, true, true, true, true, true, true, true, true, true, false, false, false, false, false, false, false, false, false, false] rfl rfl (any_of HT_.out (by kernel_rfl)) (fun _ _ _ h => h) (Or.inl ⟨by rfl, ?_⟩) ?_ ?_
          rotate_left
          ·intro w'
           go_simp
           with_reducible rfl
          rotate_left
          ·simp only [Act.put, List.setIfInBounds_toArray, List.set_cons_zero, List.set_cons_succ, i64_w, i32_w]
           rfl
          refine pure_ (i := 18) (N := some 51) (v := ?_) (a' := ?_) #[true, true, true, true, true, true, true, true, true, true, true, true, true, true, true, true, true, true, true, false, false, false, false, false, false, false, false, false] rfl rfl (any_of HT_.out (by kernel_rfl)) (fun _ _ _ h => h) (Or.inl ⟨by rfl, ?_⟩) ?_ ?_
          rotate_left
          ·intro w'
           go_simp
           with_reducible rfl
          rotate_left
          ·simp only [Act.put, List.setIfInBounds_toArray, List.set_cons_zero, List.set_cons_succ, i64_w, i32_w]
           rfl
          refine pure_ (i := 19) (N := some 52) (v := ?_) (a' := ?_) #[true, true, true, true, true, true, true, true, true, true, true, true, true, true, true, true, true, true, true, true, false, false, false, false, false, false, false, false] rfl rfl (any_of HT_.out (by kernel_rfl)) (fun _ _ _ h => h) (Or.inl ⟨by rfl, ?_⟩) ?_ ?_
          rotate_left
          ·intro w'
           go_simp
           with_reducible rfl
          rotate_left
          ·simp only [Act.put, List.setIfInBounds_toArray, List.set_cons_zero, List.set_cons_succ, i64_w, i32_w]
           rfl
          refine pure_ (i := 20) (N := some 53) (v := ?_) (a' := ?_) #[true, true, true, true, true, true, true, true, true, true, true, true, true, true, true, true, true, true, true, true, true, false, false, false, false, false, false, false] rfl rfl (any_of HT_.out (by kernel_rfl)) (fun _ _ _ h => h) (Or.inl ⟨by rfl, ?_⟩) ?_ ?_
          rotate_left
          ·intro w'
           go_simp
           with_reducible rfl
          rotate_left
          ·simp only [Act.put, List.setIfInBounds_toArray, List.set_cons_zero, List.set_cons_succ, i64_w, i32_w]
           rfl
          refine pure_ (i := 21) (N := some 54) (v := ?_) (a' := ?_) #[true, true, true, true, true, true, true, true, true, true, true, true, true, true, true, true, true, true, true, true, true, true, false, false, false, false, false, false] rfl rfl (any_of HT_.out (by kernel_rfl)) (fun _ _ _ h => h) (Or.inl ⟨by rfl, ?_⟩) ?_ ?_
          rotate_left
          ·intro w'
           go_simp
           with_reducible rfl
          rotate_left
          ·simp only [Act.put, List.setIfInBounds_toArray, List.set_cons_zero, List.set_cons_succ, i64_w, i32_w]
           rfl
          refine pure_ (i := 22) (N := some 55) (v := ?_) (a' := ?_) #[true, true, true, true, true, true, true, true, true, true, true, true, true, true, true, true, true, true, true, true, true, true, true, false, false, false, false, false] rfl rfl (any_of HT_.out (by kernel_rfl)) (fun _ _ _ h => h) (Or.inl ⟨by rfl, ?_⟩) ?_ ?_
          rotate_left
          ·intro w'
           go_simp
           with_reducible rfl
          rotate_left
          ·simp only [Act.put, List.setIfInBounds_toArray, List.set_cons_zero, List.set_cons_succ, i64_w, i32_w]
           rfl
          refine pure_ (i := 23) (N := some 56) (v := ?_) (a' := ?_) #[true, true, true, true, true, true, true, true, true, true, true, true, true, true, true, true, true, true, true, true, true, true, true, true, false, false, false, false] rfl rfl (any_of HT_.out (by kernel_rfl)) (fun _ _ _ h => h) (Or.inl ⟨by rfl, ?_⟩) ?_ ?_
          rotate_left
          ·intro w'
           go_simp
           with_reducible rfl
          rotate_left
          ·simp only [Act.put, List.setIfInBounds_toArray, List.set_cons_zero, List.set_cons_succ, i64_w, i32_w]
           rfl
          refine one_ (i := 24) (N := some 57) #[true, true, true, true, true, true, true, true, true, true, true, true, true, true, true, true, true, true, true, true, true, true, true, true, true, false, false, false] rfl rfl (one_of HT_.out (by kernel_rfl)) (by decide) (fun K hK => ?_)
          refine Kd.R_make_step (Kd.int .u8) _ 5 (by rfl) (N := 57) rfl 22 _ _ rfl ji27 rfl rfl Try.underlying22 (.int .u8 0) 1 info5 rfl (by decide) (by omega) 0 (ok := fun _ => True) (okp := fun _ => True) rfl (fun _ hk => hk) trivial (of_decide_eq_true (by first | (with_reducible assumption) | assumption)) (Nat.le_trans (Nat.mul_le_mul_right _ (of_decide_eq_true (by first | (with_reducible assumption) | assumption) : ji27.toNat ≤ 281474976710656)) (by omega)) (Below.refl _ _) (Nat.le_refl _) ?_
          intro v364 w36 ho37 hb hg_ hnew_
          clear hg_ hnew_
          (first | rw [← Ny363.out] at ho37 | (simp only [Int.reduceToNat] at ho37; rw [← Ny363.out] at ho37))
          have n0_ := Aside0.mk (Kd.N_elder' (by (with_reducible repeat (first | apply Kd.N_alloc | apply Kd.N_drewN | apply Kd.N_drew)); exact HO341.out) (Kd.R_base ho37) hb)
          have n1_ := Aside0.mk (Kd.N_elder' (by (with_reducible repeat (first | apply Kd.N_alloc | apply Kd.N_drewN | apply Kd.N_drew)); exact HO344.out) (Kd.R_base ho37) hb)
          have n2_ := Aside0.mk (Kd.R_elder' (by (with_reducible repeat (first | apply Kd.R_alloc | apply Kd.R_drewN | apply Kd.R_drew)); exact HO347.out) (Kd.R_base ho37) hb)
          have n3_ := Aside0.mk (Kd.R_elder' (by (with_reducible repeat (first | apply Kd.R_alloc | apply Kd.R_drewN | apply Kd.R_drew)); exact HO351.out) (Kd.R_base ho37) hb)
          have n4_ := Aside0.mk (Kd.V_elder' (by (with_reducible repeat (first | apply Kd.V_alloc | apply Kd.V_drewN | apply Kd.V_drew)); exact HO356.out) (Kd.R_base ho37) hb)
          have n5_ := Aside0.mk (Kd.V_elder' (by (with_reducible repeat (first | apply Kd.V_alloc | apply Kd.V_drewN | apply Kd.V_drew)); exact HO362.out) (Kd.R_base ho37) hb)
          have n6_ := Aside0.mk (Kd.R_lower (Kd.R_new' (Kd.R_new' ho37 (Kd.R_lt (by (with_reducible repeat (first | apply Kd.R_alloc | apply Kd.R_drewN | apply Kd.R_drew)); exact HO347.out))) (Kd.R_lt (by (with_reducible repeat (first | apply Kd.R_alloc | apply Kd.R_drewN | apply Kd.R_drew)); exact HO351.out))) (below_size (by repeat (first | (with_reducible first | exact HB.out | apply below_alloc | apply pw_below_drewN | apply below_drew1) | exact HB.out))))
          have n7_ := Aside0.mk (below_step (by repeat (first | (with_reducible first | exact HB.out | apply below_alloc | apply pw_below_drewN | apply below_drew1) | exact HB.out)) hb)
          clear HO341
          clear HO344
          clear HO347
          clear HO351
          clear HO356
          clear HO362
          clear HB
          have HO341 := n0_
          have HO344 := n1_
          have HO347 := n2_
          have HO351 := n3_
          have HO356 := n4_
          have HO362 := n5_
          have HO365 := n6_
          have HB := n7_
          clear n0_ n1_ n2_ n3_ n4_ n5_ n6_ n7_
          clear hb ho37
          obtain ⟨Ao38, co38, eo38⟩ := Kd.R_slice HO365.out
          (first | subst eo38 | (injection eo38 with f1_ f2_ f3_; have f4_ := f1_.symm; have f5_ := f3_.symm; clear f1_ f2_ f3_; subst f4_; subst f5_))
          refine hK.out _ _ trivial (fun hHeld => ?_)
          clear hK K
          refine norm_ (a' := ?_) ?_ ?_
          rotate_left
          ·show Act.put _ (some 57) _ = _
           simp only [Act.put, List.setIfInBounds_toArray, List.set_cons_zero, List.set_cons_succ, i64_w, i32_w]
           rfl
          refine one_ (i := 25) (N := some 58) #[true, true, true, true, true, true, true, true, true, true, true, true, true, true, true, true, true, true, true, true, true, true, true, true, true, true, false, false] rfl rfl (one_of HT_.out (by kernel_rfl)) (by decide) (fun K hK => ?_)
          refine goes_ Try.func14 (by kernel_rfl) rfl #[.slice A35 y358.length c35, .slice Ao38 y363.length co38] (by rfl) rfl rfl (by (try simp only [List.map_toArray, List.map_cons, List.map_nil]); first | done | rfl | (simp only [List.length_drop, List.length_take]; rfl)) ?_
          with_reducible refine (kotatsuref01_Same.calls k _ _ y358 _ _ y363 t366 _ ?side1 ?side2 ?side3 ?side4 A30.out).mono ?_
          (case side1 => repeat (first | exact (Kd.V_reads' HO362.out).2.2 | (with_reducible refine Kd.C_alloc ?_ _) | (with_reducible refine Kd.C_drewN ?_ _) | (with_reducible refine Kd.C_drew ?_)))
          (case side2 => exact (Kd.V_reads' HO362.out).2.1)
          (case side3 => repeat (first | exact (Kd.R_reads' HO365.out).2.2 | (with_reducible refine Kd.C_alloc ?_ _) | (with_reducible refine Kd.C_drewN ?_ _) | (with_reducible refine Kd.C_drew ?_)))
          (case side4 => exact (Kd.R_reads' HO365.out).2.1)
          rintro e w' ⟨rfl, ⟨nd, rfl⟩⟩
          refine ⟨_, rfl, ?_⟩
          refine hK.out _ _ trivial (fun hHeld => ?_)
          clear hK K
          refine norm_ (a' := ?_) ?_ ?_
          rotate_left
          ·show Act.put _ (some 58) _ = _
           simp only [Act.put, List.setIfInBounds_toArray, List.set_cons_zero, List.set_cons_succ, i64_w, i32_w]
           rfl
          refine pure_ (i := 26) (N := some 59) (v := ?_) (a' := ?_) #[true, true, true, true, true, true, true, true, true, true, true, true, true, true, true, true, true, true, true, true, true, true, true, true, true, true, true, false] rfl rfl (any_of HT_.out (by kernel_rfl)) (fun _ _ _ h => h) (Or.inl ⟨by rfl, ?_⟩) ?_ ?_
          rotate_left
          ·intro w'
           go_simp
           with_reducible rfl
          rotate_left
          ·simp only [Act.put, List.setIfInBounds_toArray, List.set_cons_zero, List.set_cons_succ, i64_w, i32_w]
           rfl
          refine pure_ (i := 27) (N := some 60) (v := ?_) (a' := ?_) #[true, true, true, true, true, true, true, true, true, true, true, true, true, true, true, true, true, true, true, true, true, true, true, true, true, true, true, true] rfl rfl (any_of HT_.out (by kernel_rfl)) (fun _ _ _ h => h) (Or.inl ⟨by rfl, ?_⟩) ?_ ?_
          rotate_left
          ·intro w'
           go_simp
           with_reducible rfl
          rotate_left
          ·simp only [Act.put, List.setIfInBounds_toArray, List.set_cons_zero, List.set_cons_succ, i64_w, i32_w]
           rfl
          refine done_ (done_of HT_.out (by kernel_rfl)) ?_
          try go_wp2
          go_meet
          case rel => exact ⟨_, (!t366), (by first | rfl | (simp; done) | (simp [*]; done)), H', ⟨by first | omega | exact Nat.le_refl _⟩, ⟨by (with_reducible repeat (first | apply Kd.N_alloc | apply Kd.N_drewN | apply Kd.N_drew)); exact Kd.N_mono HO341.out (fun _ hk => ⟨hk.1.1.2, hk.1.2⟩)⟩, ⟨by (with_reducible repeat (first | apply Kd.R_alloc | apply Kd.R_drewN | apply Kd.R_drew)); exact Kd.R_mono HO347.out (fun _ hk => hk.1.2)⟩, ⟨by (with_reducible repeat (first | apply Kd.R_alloc | apply Kd.R_drewN | apply Kd.R_drew)); exact Kd.R_mono HO351.out (fun _ hk => hk.1.2)⟩, ⟨by repeat (first | (with_reducible first | exact HB.out | apply below_alloc | apply pw_below_drewN | apply below_drew1) | exact HB.out)⟩⟩
         ·rw [if_neg c29] at H
          exact absurd H (by simp)
        ·rw [if_neg c28] at H
         exact absurd H (by simp)
       ·replace c24 := Bool.eq_false_iff.mpr c24
        subst c24
        have H1 : (kotatsulaw06_DiskWraps.j0 k a2 a3 t339 t345 t348 true) = some r := by rw [if_neg (show ¬ (false = true) by decide)] at H; exact H
        clear H
        have H := H1
        clear H1
        have H' := Aside0.mk H
        clear H
        try go_wp2
        have n0_ := Aside0.mk (Kd.N_drew HO341.out)
        have n1_ := Aside0.mk (Kd.N_drew HO344.out)
        have n2_ := Aside0.mk (Kd.R_drew HO347.out)
        have n3_ := Aside0.mk (Kd.R_drew HO351.out)
        have n4_ := Aside0.mk (below_drew1 HB.out)
        clear HO341
        clear HO344
        clear HO347
        clear HO351
        clear HB
        have HO341 := n0_
        have HO344 := n1_
        have HO347 := n2_
        have HO351 := n3_
        have HB := n4_
        clear n0_ n1_ n2_ n3_ n4_
        obtain ⟨Ao40, co40, eo40⟩ := Kd.R_slice HO351.out
        (first | subst eo40 | (injection eo40 with f1_ f2_ f3_; have f4_ := f1_.symm; have f5_ := f3_.symm; clear f1_ f2_ f3_; subst f4_; subst f5_))
        obtain ⟨Ao41, co41, eo41⟩ := Kd.R_slice HO347.out
        (first | subst eo41 | (injection eo41 with f1_ f2_ f3_; have f4_ := f1_.symm; have f5_ := f3_.symm; clear f1_ f2_ f3_; subst f4_; subst f5_))
        have q42 : ((t345.length : Int) : Int) ≤ ((t348.length : Int) : Int) := of_decide_eq_true (by first | (with_reducible assumption) | assumption)
        obtain ⟨i042, hi042, _, hsz42, _⟩ := info_parts info5
        have hroom42 : t348.length ≤ co40 := (Kd.R_reads' HO351.out).2.1
        have hC42 : Kd.F (Kd.int .u8) _ _ Ao40 t348.length t348 := (Kd.V_at (base := w.heap.size) (Kd.R_V (Kd.R_apart' (Kd.R_apart' (HO351.out) (Kd.N_typed HO341.out) (by decide)) (Kd.N_typed HO344.out) (by decide)))).2.2
        have hcut42 := cut_to (P := Try.prog) 22 5 .i64 Try.underlying22 hi042 Ao40 t348.length co40 (t345.length : Int) (of_decide_eq_true (by first | (with_reducible assumption) | assumption)) q42 hroom42
        have hr42 := Kd.F_take (m := ((t345.length : Int) : Int).toNat) hC42 (by omega)
        have hy42 : y352.length = ((t345.length : Int) : Int).toNat := (by rw [Ny352.out, List.length_take]; omega)
        rw [← Ny352.out] at hr42
        rw [← hy42] at hcut42
        have HO356 := Aside0.mk (show Kd.V (Kd.int .u8) 5 _ w.heap.size _ (.slice Ao40 y352.length co40) y352 from Kd.V_mk (by omega) hr42)
        have HC356 := Aside0.mk (show y352.length ≤ co40 from by omega)
        clear hr42 hC42 hroom42 hi042 hsz42
        have KY42 := Aside0.mk hy42
        clear hy42
        replace q42 := eq_true q42
        refine start_ (n := 28) (S := fun w' => True) (ds := []) #[false, false, false, false, false, false, false, false, false, false, false, false, false, false, false, false, false, false, false, false, false, false, false, false, false, false, false, false] (by kernel_rfl) rfl rfl trivial (fun hHeld => ?_); refine with_tabW kotatsulaw06_DiskWraps.tab6 kotatsulaw06_DiskWraps.bits6 (fun HT_ HW_ => ?_)
        generalize w18.drew = w39 at HO341 HO344 HO347 HO351 HB HO356 hHeld ⊢
        refine pure_ (i := 0) (N := some 33) (v := ?_) (a' := ?_) #[true, false, false, false, false, false, false, false, false, false, false, false, false, false, false, false, false, false, false, false, false, false, false, false, false, false, false, false] rfl rfl (any_of HT_.out (by kernel_rfl)) (fun _ _ _ h => h) (Or.inl ⟨by rfl, ?_⟩) ?_ ?_
        rotate_left
        ·intro w'
         go_simp
         with_reducible rfl
        rotate_left
        ·simp only [Act.put, List.setIfInBounds_toArray, List.set_cons_zero, List.set_cons_succ, i64_w, i32_w]
         rfl
        refine pure_ (i := 1) (N := some 34) (v := ?_) (a' := ?_) #[true, true, false, false, false, false, false, false, false, false, false, false, false, false, false, false, false, false, false, false, false, false, false, false, false, false, false, false] rfl rfl (any_of HT_.out (by kernel_rfl)) (fun _ _ _ h => h) (Or.inl ⟨by rfl, ?_⟩) ?_ ?_
        rotate_left
        ·intro w'
         go_simp
         with_reducible rfl
        rotate_left
        ·simp only [Act.put, List.setIfInBounds_toArray, List.set_cons_zero, List.set_cons_succ, i64_w, i32_w]
         rfl
        refine pure_ (i := 2) (N := some 35) (v := ?_) (a' := ?_) #[true, true, true, false, false, false, false, false, false, false, false, false, false, false, false, false, false, false, false, false, false, false, false, false, false, false, false, false] rfl rfl (any_of HT_.out (by kernel_rfl)) (fun _ _ _ h => h) (Or.inl ⟨by rfl, ?_⟩) ?_ ?_
        rotate_left
        ·intro w'
         go_simp
         with_reducible rfl
        rotate_left
        ·simp only [Act.put, List.setIfInBounds_toArray, List.set_cons_zero, List.set_cons_succ, i64_w, i32_w]
         rfl
        refine pure_ (i := 3) (N := some 36) (v := ?_) (a' := ?_) #[true, true, true, true, false, false, false, false, false, false, false, false, false, false, false, false, false, false, false, false, false, false, false, false, false, false, false, false] rfl rfl (any_of HT_.out (by kernel_rfl)) (fun _ _ _ h => h) (Or.inl ⟨by rfl, ?_⟩) ?_ ?_
        rotate_left
        ·intro w'
         go_simp
         with_reducible rfl
        rotate_left
        ·simp only [Act.put, List.setIfInBounds_toArray, List.set_cons_zero, List.set_cons_succ, i64_w, i32_w]
         rfl
        refine pure_ (i := 4) (N := some 37) (v := ?_) (a' := ?_) #[true, true, true, true, true, false, false, false, false, false, false, false, false, false, false, false, false, false, false, false, false, false, false, false, false, false, false, false] rfl rfl (any_of HT_.out (by kernel_rfl)) (fun _ _ _ h => h) (Or.inl ⟨by rfl, ?_⟩) ?_ ?_
        rotate_left
        ·intro w'
         go_simp
         with_reducible rfl
        rotate_left
        ·simp only [Act.put, List.setIfInBounds_toArray, List.set_cons_zero, List.set_cons_succ, i64_w, i32_w]
         rfl
        refine pure_ (i := 5) (N := some 38) (v := ?_) (a' := ?_) #[true, true, true, true, true, true, false, false, false, false, false, false, false, false, false, false, false, false, false, false, false, false, false, false, false, false, false, false] rfl rfl (any_of HT_.out (by kernel_rfl)) (fun _ _ _ h => h) (Or.inl ⟨by rfl, ?_⟩) ?_ ?_
        rotate_left
        ·intro w'
         go_simp
         with_reducible rfl
        rotate_left
        ·simp only [Act.put, List.setIfInBounds_toArray, List.set_cons_zero, List.set_cons_succ, i64_w, i32_w]
         rfl
        refine pure_ (i := 6) (N := some 39) (v := ?_) (a' := ?_) #[true, true, true, true, true, true, true, false, false, false, false, false, false, false, false, false, false, false, false, false, false, false, false, false, false, false, false, false] rfl rfl (any_of HT_.out (by kernel_rfl)) (fun _ _ _ h => h) (Or.inl ⟨by rfl, ?_⟩) ?_ ?_
        rotate_left
        ·intro w'
         go_simp
         with_reducible rfl
        rotate_left
        ·simp only [Act.put, List.setIfInBounds_toArray, List.set_cons_zero, List.set_cons_succ, i64_w, i32_w]
         rfl
        refine pure_ (i := 7) (N := some 40) (v := ?_) (a' := ?_) #[true, true, true, true, true, true, true, true, false, false, false, false, false, false, false, false, false, false, false, false, false, false, false, false, false, false, false, false] rfl rfl (any_of HT_.out (by kernel_rfl)) (fun _ _ _ h => h) (Or.inl ⟨by rfl, ?_⟩) ?_ ?_
        rotate_left
        ·intro w'
         go_simp
         with_reducible rfl
        rotate_left
        ·simp only [Act.put, List.setIfInBounds_toArray, List.set_cons_zero, List.set_cons_succ, i64_w, i32_w]
         rfl
        refine pure_ (i := 8) (N := some 41) (v := ?_) (a' := ?_) #[true, true, true, true, true, true, true, true, true, false, false, false, false, false, false, false, false, false, false, false, false, false, false, false, false, false, false, false] rfl rfl (any_of HT_.out (by kernel_rfl)) (fun _ _ _ h => h) (Or.inl ⟨by rfl, ?_⟩) ?_ ?_
        rotate_left
        ·intro w'
         go_simp
         with_reducible rfl
        rotate_left
        ·simp only [Act.put, List.setIfInBounds_toArray, List.set_cons_zero, List.set_cons_succ, i64_w, i32_w]
         rfl
        refine pure_ (i := 9) (N := some 42) (v := ?_) (a' := ?_) #[true, true, true, true, true, true, true, true, true, true, false, false, false, false, false, false, false, false, false, false, false, false, false, false, false, false, false, false] rfl rfl (any_of HT_.out (by kernel_rfl)) (fun _ _ _ h => h) (Or.inl ⟨by rfl, ?_⟩) ?_ ?_
        rotate_left
        ·intro w'
         go_simp
         with_reducible rfl
        rotate_left
        ·simp only [Act.put, List.setIfInBounds_toArray, List.set_cons_zero, List.set_cons_succ, i64_w, i32_w]
         rfl
        refine pure_ (i := 10) (N := some 43) (v := ?_) (a' := ?_) #[true, true, true, true, true, true, true, true, true, true, true, false, false, false, false, false, false, false, false, false, false, false, false, false, false, false, false, false] rfl rfl (any_of HT_.out (by kernel_rfl)) (fun _ _ _ h => h) (Or.inl ⟨by rfl, ?_⟩) ?_ ?_
        rotate_left
        ·intro w'
         go_simp
         with_reducible rfl
        rotate_left
        ·simp only [Act.put, List.setIfInBounds_toArray, List.set_cons_zero, List.set_cons_succ, i64_w, i32_w]
         rfl
        refine pure_ (i := 11) (N := some 44) (v := ?_) (a' := ?_) #[true, true, true, true, true, true, true, true, true, true, true, true, false, false, false, false, false, false, false, false, false, false, false, false, false, false, false, false] rfl rfl (any_of HT_.out (by kernel_rfl)) (fun _ _ _ h => h) (Or.inl ⟨by rfl, ?_⟩) ?_ ?_
        rotate_left
        ·intro w'
         go_simp
         with_reducible rfl
        rotate_left
        ·simp only [Act.put, List.setIfInBounds_toArray, List.set_cons_zero, List.set_cons_succ, i64_w, i32_w]
         rfl
        refine pure_ (i := 12) (N := some 45) (v := ?_) (a' := ?_) #[true, true, true, true, true, true, true, true, true, true, true, true, true, false, false, false, false, false, false, false, false, false, false, false, false, false, false, false] rfl rfl (any_of HT_.out (by kernel_rfl)) (fun _ _ _ h => h) (Or.inl ⟨by rfl, ?_⟩) ?_ ?_
        rotate_left
        ·intro w'
         go_simp
         with_reducible rfl
        rotate_left
        ·simp only [Act.put, List.setIfInBounds_toArray, List.set_cons_zero, List.set_cons_succ, i64_w, i32_w]
         rfl
        refine one_ (i := 13) (N := some 46) #[true, true, true, true, true, true, true, true, true, true, true, true, true, true, false, false, false, false, false, false, false, false, false, false, false, false, false, false] rfl rfl (one_of HT_.out (by kernel_rfl)) (by decide) (fun K hK => ?_)
        refine goes_ Try.func14 (by kernel_rfl) rfl #[.slice Ao40 y352.length co40, .slice Ao41 t345.length co41] (by rfl) rfl rfl (by (try simp only [List.map_toArray, List.map_cons, List.map_nil]); first | done | rfl | (simp only [List.length_drop, List.length_take]; rfl)) ?_
        with_reducible refine (kotatsuref01_Same.calls k _ _ y352 _ _ t345 false _ ?side1 ?side2 ?side3 ?side4 A23.out).mono ?_
        (case side1 => repeat (first | exact (Kd.V_reads' HO356.out).2.2 | (with_reducible refine Kd.C_alloc ?_ _) | (with_reducible refine Kd.C_drewN ?_ _) | (with_reducible refine Kd.C_drew ?_)))
        (case side2 => exact (Kd.V_reads' HO356.out).2.1)
        (case side3 => repeat (first | exact (Kd.R_reads' HO347.out).2.2 | (with_reducible refine Kd.C_alloc ?_ _) | (with_reducible refine Kd.C_drewN ?_ _) | (with_reducible refine Kd.C_drew ?_)))
        (case side4 => exact (Kd.R_reads' HO347.out).2.1)
        rintro e w' ⟨rfl, ⟨nd, rfl⟩⟩
        refine ⟨_, rfl, ?_⟩
        refine hK.out _ _ trivial (fun hHeld => ?_)
        clear hK K
        refine norm_ (a' := ?_) ?_ ?_
        rotate_left
        ·show Act.put _ (some 46) _ = _
         simp only [Act.put, List.setIfInBounds_toArray, List.set_cons_zero, List.set_cons_succ, i64_w, i32_w]
         rfl
        refine pure_ (i := 14) (N := some 47) (v := ?_) (a' := ?_) #[true, true, true, true, true, true, true, true, true, true, true, true, true, true, true, false, false, false, false, false, false, false, false, false, false, false, false, false] rfl rfl (any_of HT_.out (by kernel_rfl)) (fun _ _ _ h => h) (Or.inl ⟨by rfl, ?_⟩) ?_ ?_
        rotate_left
        ·intro w'
         go_simp
         with_reducible rfl
        rotate_left
        ·simp only [Act.put, List.setIfInBounds_toArray, List.set_cons_zero, List.set_cons_succ, i64_w, i32_w]
         rfl
        refine pure_ (i := 15) (N := some 48) (v := ?_) (a' := ?_) #[true, true, true, true, true, true, true, true, true, true, true, true, true, true, true, true, false, false, false, false, false, false, false, false, false, false, false, false] rfl rfl (any_of HT_.out (by kernel_rfl)) (fun _ _ _ h => h) (Or.inl ⟨by rfl, ?_⟩) ?_ ?_
        rotate_left
        ·intro w'
         go_simp
         with_reducible rfl
        rotate_left
        ·simp only [Act.put, List.setIfInBounds_toArray, List.set_cons_zero, List.set_cons_succ, i64_w, i32_w]
         rfl
        refine pure_ (i := 16) (N := some 49) (v := ?_) (a' := ?_) #[true, true, true, true, true, true, true, true, true, true, true, true, true, true, true, true, true, false, false, false, false, false, false, false, false, false, false, false] rfl rfl (any_of HT_.out (by kernel_rfl)) (fun _ _ _ h => h) (Or.inl ⟨by rfl, ?_⟩) ?_ ?_
        rotate_left
        ·intro w'
         go_simp
         with_reducible rfl
        rotate_left
        ·simp only [Act.put, List.setIfInBounds_toArray, List.set_cons_zero, List.set_cons_succ, i64_w, i32_w]
         rfl
        refine pure_ (i := 17) (N := some 50) (v := undef) (a' := ?_) #[true, true, true, true, true, true, true, true, true, true, true, true, true, true, true, true, true, true, false, false, false, false, false, false, false, false, false, false] rfl rfl (any_of HT_.out (by kernel_rfl)) (fun _ _ _ h => h) (Or.inr ⟨by rfl, rfl⟩) ?_ ?_
        rotate_left
        ·simp only [Act.put, List.setIfInBounds_toArray, List.set_cons_zero, List.set_cons_succ, i64_w, i32_w]
         rfl
        refine pure_ (i := 18) (N := some 51) (v := undef) (a' := ?_) #[true, true, true, true, true, true, true, true, true, true, true, true, true, true, true, true, true, true, true, false, false, false, false, false, false, false, false, false] rfl rfl (any_of HT_.out (by kernel_rfl)) (fun _ _ _ h => h) (Or.inr ⟨by rfl, rfl⟩) ?_ ?_
        rotate_left
        ·simp only [Act.put, List.setIfInBounds_toArray, List.set_cons_zero, List.set_cons_succ, i64_w, i32_w]
         rfl
        refine pure_ (i := 19) (N := some 52) (v := undef) (a' := ?_) #[true, true, true, true, true, true, true, true, true, true, true, true, true, true, true, true, true, true, true, true, false, false, false, false, false, false, false, false] rfl rfl (any_of HT_.out (by kernel_rfl)) (fun _ _ _ h => h) (Or.inr ⟨by rfl, rfl⟩) ?_ ?_
        rotate_left
        ·simp only [Act.put, List.setIfInBounds_toArray, List.set_cons_zero, List.set_cons_succ, i64_w, i32_w]
         rfl
        refine pure_ (i := 20) (N := some 53) (v := undef) (a' := ?_) #[true, true, true, true, true, true, true, true, true, true, true, true, true, true, true, true, true, true, true, true, true, false, false, false, false, false, false, false] rfl rfl (any_of HT_.out (by kernel_rfl)) (fun _ _ _ h => h) (Or.inr ⟨by rfl, rfl⟩) ?_ ?_
        rotate_left
        ·simp only [Act.put, List.setIfInBounds_toArray, List.set_cons_zero, List.set_cons_succ, i64_w, i32_w]
         rfl
        refine pure_ (i := 21) (N := some 54) (v := undef) (a' := ?_) #[true, true, true, true, true, true, true, true, true, true, true, true, true, true, true, true, true, true, true, true, true, true, false, false, false, false, false, false] rfl rfl (any_of HT_.out (by kernel_rfl)) (fun _ _ _ h => h) (Or.inr ⟨by rfl, rfl⟩) ?_ ?_
        rotate_left
        ·simp only [Act.put, List.setIfInBounds_toArray, List.set_cons_zero, List.set_cons_succ, i64_w, i32_w]
         rfl
        refine pure_ (i := 22) (N := some 55) (v := undef) (a' := ?_) #[true, true, true, true, true, true, true, true, true, true, true, true, true, true, true, true, true, true, true, true, true, true, true, false, false, false, false, false] rfl rfl (any_of HT_.out (by kernel_rfl)) (fun _ _ _ h => h) (Or.inr ⟨by rfl, rfl⟩) ?_ ?_
        rotate_left
        ·simp only [Act.put, List.setIfInBounds_toArray, List.set_cons_zero, List.set_cons_succ, i64_w, i32_w]
         rfl
        refine pure_ (i := 23) (N := some 56) (v := undef) (a' := ?_) #[true, true, true, true, true, true, true, true, true, true, true, true, true, true, true, true, true, true, true, true, true, true, true, true, false, false, false, false] rfl rfl (any_of HT_.out (by kernel_rfl)) (fun _ _ _ h => h) (Or.inr ⟨by rfl, rfl⟩) ?_ ?_
        rotate_left
        ·simp only [Act.put, List.setIfInBounds_toArray, List.set_cons_zero, List.set_cons_succ, i64_w, i32_w]
         rfl
        refine pure_ (i := 24) (N := some 57) (v := undef) (a' := ?_) #[true, true, true, true, true, true, true, true, true, true, true, true, true, true, true, true, true, true, true, true, true, true, true, true, true, false, false, false] rfl rfl (any_of HT_.out (by kernel_rfl)) (fun _ _ _ h => h) (Or.inr ⟨by rfl, rfl⟩) ?_ ?_
        rotate_left
        ·simp only [Act.put, List.setIfInBounds_toArray, List.set_cons_zero, List.set_cons_succ, i64_w, i32_w]
         rfl
        refine pure_ (i := 25) (N := some 58) (v := undef) (a' := ?_) #[true, true, true, true, true, true, true, true, true, true, true, true, true, true, true, true, true, true, true, true, true, true, true, true, true, true, false, false] rfl rfl (any_of HT_.out (by kernel_rfl)) (fun _ _ _ h => h) (Or.inr ⟨by rfl, rfl⟩) ?_ ?_
        rotate_left
        ·simp only [Act.put, List.setIfInBounds_toArray, List.set_cons_zero, List.set_cons_succ, i64_w, i32_w]
         rfl
        refine pure_ (i := 26) (N := some 59) (v := undef) (a' := ?_) #[true, true, true, true, true, true, true, true, true, true, true, true, true, true, true, true, true, true, true, true, true, true, true, true, true, true, true, false] rfl rfl (any_of HT_.out (by kernel_rfl)) (fun _ _ _ h => h) (Or.inr ⟨by rfl, rfl⟩) ?_ ?_
        rotate_left
        ·simp only [Act.put, List.setIfInBounds_toArray, List.set_cons_zero, List.set_cons_succ, i64_w, i32_w]
         rfl
        refine pure_ (i := 27) (N := some 60) (v := ?_) (a' := ?_) #[true, true, true, true, true, true, true, true, true, true, true, true, true, true, true, true, true, true, true, true, true, true, true, true, true, true, true, true] rfl rfl (any_of HT_.out (by kernel_rfl)) (fun _ _ _ h => h) (Or.inl ⟨by rfl, ?_⟩) ?_ ?_
        rotate_left
        ·intro w'
         go_simp
         with_reducible rfl
        rotate_left
        ·simp only [Act.put, List.setIfInBounds_toArray, List.set_cons_zero, List.set_cons_succ, i64_w, i32_w]
         rfl
        refine done_ (done_of HT_.out (by kernel_rfl)) ?_
        try go_wp2
        go_meet
        case rel => exact ⟨_, (true), (by first | rfl | (simp; done) | (simp [*]; done)), H', ⟨by first | omega | exact Nat.le_refl _⟩, ⟨by (with_reducible repeat (first | apply Kd.N_alloc | apply Kd.N_drewN | apply Kd.N_drew)); exact Kd.N_mono HO341.out (fun _ hk => ⟨hk.1.2, hk.2⟩)⟩, ⟨by (with_reducible repeat (first | apply Kd.R_alloc | apply Kd.R_drewN | apply Kd.R_drew)); exact Kd.R_mono HO347.out (fun _ hk => hk.2)⟩, ⟨by (with_reducible repeat (first | apply Kd.R_alloc | apply Kd.R_drewN | apply Kd.R_drew)); exact Kd.R_mono HO351.out (fun _ hk => hk.2)⟩, ⟨by repeat (first | (with_reducible first | exact HB.out | apply below_alloc | apply pw_below_drewN | apply below_drew1) | exact HB.out)⟩⟩
      ·rw [if_neg c22] at H
       exact absurd H (by simp)
     ·rw [if_neg c21] at H
      exact absurd H (by simp)
    ·rw [if_neg c20] at H
     have c20b0 : ((t348.length : Int) == 65536) = false := beq_eq_false_iff_ne.mpr c20
     have c20b1 : ((t348.length : Int) != 65536) = true := bne_iff_ne.mpr c20
     (first | rw [c20b0] | (simp only [i64_w, i32_w]; rw [c20b0]) | skip)
     have H' := Aside0.mk H
     clear H
     try go_wp2
     have n0_ := Aside0.mk (Kd.N_drew HO341.out)
     have n1_ := Aside0.mk (Kd.N_drew HO344.out)
     have n2_ := Aside0.mk (Kd.R_drew HO347.out)
     have n3_ := Aside0.mk (Kd.R_drew HO351.out)
     have n4_ := Aside0.mk (below_drew1 HB.out)
     clear HO341
     clear HO344
     clear HO347
     clear HO351
     clear HB
     have HO341 := n0_
     have HO344 := n1_
     have HO347 := n2_
     have HO351 := n3_
     have HB := n4_
     clear n0_ n1_ n2_ n3_ n4_
     obtain ⟨Ao44, co44, eo44⟩ := Kd.R_slice HO351.out
     (first | subst eo44 | (injection eo44 with f1_ f2_ f3_; have f4_ := f1_.symm; have f5_ := f3_.symm; clear f1_ f2_ f3_; subst f4_; subst f5_))
     refine start_ (n := 28) (S := fun w' => True) (ds := []) #[false, false, false, false, false, false, false, false, false, false, false, false, false, false, false, false, false, false, false, false, false, false, false, false, false, false, false, false] (by kernel_rfl) rfl rfl trivial (fun hHeld => ?_); refine with_tabW kotatsulaw06_DiskWraps.tab6 kotatsulaw06_DiskWraps.bits6 (fun HT_ HW_ => ?_)
     generalize w18.drew = w43 at HO341 HO344 HO347 HO351 HB hHeld ⊢
     refine pure_ (i := 0) (N := some 33) (v := ?_) (a' := ?_) #[true, false, false, false, false, false, false, false, false, false, false, false, false, false, false, false, false, false, false, false, false, false, false, false, false, false, false, false] rfl rfl (any_of HT_.out (by kernel_rfl)) (fun _ _ _ h => h) (Or.inl ⟨by rfl, ?_⟩) ?_ ?_
     rotate_left
     ·intro w'
      go_simp
      with_reducible rfl
     rotate_left
     ·simp only [Act.put, List.setIfInBounds_toArray, List.set_cons_zero, List.set_cons_succ, i64_w, i32_w]
      rfl
     refine pure_ (i := 1) (N := some 34) (v := ?_) (a' := ?_) #[true, true, false, false, false, false, false, false, false, false, false, false, false, false, false, false, false, false, false, false, false, false, false, false, false, false, false, false] rfl rfl (any_of HT_.out (by kernel_rfl)) (fun _ _ _ h => h) (Or.inl ⟨by rfl, ?_⟩) ?_ ?_
     rotate_left
     ·intro w'
      go_simp
      with_reducible rfl
     rotate_left
     ·simp only [Act.put, List.setIfInBounds_toArray, List.set_cons_zero, List.set_cons_succ, i64_w, i32_w]
      rfl
     refine pure_ (i := 2) (N := some 35) (v := ?_) (a' := ?_) #[true, true, true, false, false, false, false, false, false, false, false, false, false, false, false, false, false, false, false, false, false, false, false, false, false, false, false, false] rfl rfl (any_of HT_.out (by kernel_rfl)) (fun _ _ _ h => h) (Or.inl ⟨by rfl, ?_⟩) ?_ ?_
     rotate_left
     ·intro w'
      go_simp
      with_reducible rfl
     rotate_left
     ·simp only [Act.put, List.setIfInBounds_toArray, List.set_cons_zero, List.set_cons_succ, i64_w, i32_w]
      rfl
     refine pure_ (i := 3) (N := some 36) (v := ?_) (a' := ?_) #[true, true, true, true, false, false, false, false, false, false, false, false, false, false, false, false, false, false, false, false, false, false, false, false, false, false, false, false] rfl rfl (any_of HT_.out (by kernel_rfl)) (fun _ _ _ h => h) (Or.inl ⟨by rfl, ?_⟩) ?_ ?_
     rotate_left
     ·intro w'
      go_simp
      with_reducible rfl
     rotate_left
     ·simp only [Act.put, List.setIfInBounds_toArray, List.set_cons_zero, List.set_cons_succ, i64_w, i32_w]
      rfl
     refine pure_ (i := 4) (N := some 37) (v := ?_) (a' := ?_) #[true, true, true, true, true, false, false, false, false, false, false, false, false, false, false, false, false, false, false, false, false, false, false, false, false, false, false, false] rfl rfl (any_of HT_.out (by kernel_rfl)) (fun _ _ _ h => h) (Or.inl ⟨by rfl, ?_⟩) ?_ ?_
     rotate_left
     ·intro w'
      go_simp
      with_reducible rfl
     rotate_left
     ·simp only [Act.put, List.setIfInBounds_toArray, List.set_cons_zero, List.set_cons_succ, i64_w, i32_w]
      rfl
     refine pure_ (i := 5) (N := some 38) (v := ?_) (a' := ?_) #[true, true, true, true, true, true, false, false, false, false, false, false, false, false, false, false, false, false, false, false, false, false, false, false, false, false, false, false] rfl rfl (any_of HT_.out (by kernel_rfl)) (fun _ _ _ h => h) (Or.inl ⟨by rfl, ?_⟩) ?_ ?_
     rotate_left
     ·intro w'
      go_simp
      with_reducible rfl
     rotate_left
     ·simp only [Act.put, List.setIfInBounds_toArray, List.set_cons_zero, List.set_cons_succ, i64_w, i32_w]
      rfl
     refine pure_ (i := 6) (N := some 39) (v := ?_) (a' := ?_) #[true, true, true, true, true, true, true, false, false, false, false, false, false, false, false, false, false, false, false, false, false, false, false, false, false, false, false, false] rfl rfl (any_of HT_.out (by kernel_rfl)) (fun _ _ _ h => h) (Or.inl ⟨by rfl, ?_⟩) ?_ ?_
     rotate_left
     ·intro w'
      go_simp
      with_reducible rfl
     rotate_left
     ·simp only [Act.put, List.setIfInBounds_toArray, List.set_cons_zero, List.set_cons_succ, i64_w, i32_w]
      rfl
     refine pure_ (i := 7) (N := some 40) (v := ?_) (a' := ?_) #[true, true, true, true, true, true, true, true, false, false, false, false, false, false, false, false, false, false, false, false, false, false, false, false, false, false, false, false] rfl rfl (any_of HT_.out (by kernel_rfl)) (fun _ _ _ h => h) (Or.inl ⟨by rfl, ?_⟩) ?_ ?_
     rotate_left
     ·intro w'
      go_simp
      with_reducible rfl
     rotate_left
     ·simp only [Act.put, List.setIfInBounds_toArray, List.set_cons_zero, List.set_cons_succ, i64_w, i32_w]
      rfl
     refine pure_ (i := 8) (N := some 41) (v := undef) (a' := ?_) #[true, true, true, true, true, true, true, true, true, false, false, false, false, false, false, false, false, false, false, false, false, false, false, false, false, false, false, false] rfl rfl (any_of HT_.out (by kernel_rfl)) (fun _ _ _ h => h) (Or.inr ⟨by rfl, rfl⟩) ?_ ?_
     rotate_left
     ·simp only [Act.put, List.setIfInBounds_toArray, List.set_cons_zero, List.set_cons_succ, i64_w, i32_w]
      rfl
     refine pure_ (i := 9) (N := some 42) (v := undef) (a' := ?_) #[true, true, true, true, true, true, true, true, true, true, false, false, false, false, false, false, false, false, false, false, false, false, false, false, false, false, false, false] rfl rfl (any_of HT_.out (by kernel_rfl)) (fun _ _ _ h => h) (Or.inr ⟨by rfl, rfl⟩) ?_ ?_
     rotate_left
     ·simp only [Act.put, List.setIfInBounds_toArray, List.set_cons_zero, List.set_cons_succ, i64_w, i32_w]
      rfl
     refine pure_ (i := 10) (N := some 43) (v := undef) (a' := ?_) #[true, true, true, true, true, true, true, true, true, true, true, false, false, false, false, false, false, false, false, false, false, false, false, false, false, false, false, false] rfl rfl (any_of HT_.out (by kernel_rfl)) (fun _ _ _ h => h) (Or.inr ⟨by rfl, rfl⟩) ?_ ?_
     rotate_left
     ·simp only [Act.put, List.setIfInBounds_toArray, List.set_cons_zero, List.set_cons_succ, i64_w, i32_w]
      rfl
     refine pure_ (i := 11) (N := some 44) (v := undef) (a' := ?_) #[true, true, true, true, true, true, true, true, true, true, true, true, false, false, false, false, false, false, false, false, false, false, false, false, false, false, false, false] rfl rfl (any_of HT_.out (by kernel_rfl)) (fun _ _ _ h => h) (Or.inr ⟨by rfl, rfl⟩) ?_ ?_
     rotate_left
     ·simp only [Act.put, List.setIfInBounds_toArray, List.set_cons_zero, List.set_cons_succ, i64_w, i32_w]
      rfl
     refine pure_ (i := 12) (N := some 45) (v := undef) (a' := ?_) #[true, true, true, true, true, true, true, true, true, true, true, true, true, false, false, false, false, false, false, false, false, false, false, false, false, false, false, false] rfl rfl (any_of HT_.out (by kernel_rfl)) (fun _ _ _ h => h) (Or.inr ⟨by rfl, rfl⟩) ?_ ?_
     rotate_left
     ·simp only [Act.put, List.setIfInBounds_toArray, List.set_cons_zero, List.set_cons_succ, i64_w, i32_w]
      rfl
     refine pure_ (i := 13) (N := some 46) (v := undef) (a' := ?_) #[true, true, true, true, true, true, true, true, true, true, true, true, true, true, false, false, false, false, false, false, false, false, false, false, false, false, false, false] rfl rfl (any_of HT_.out (by kernel_rfl)) (fun _ _ _ h => h) (Or.inr ⟨by rfl, rfl⟩) ?_ ?_
     rotate_left
     ·simp only [Act.put, List.setIfInBounds_toArray, List.set_cons_zero, List.set_cons_succ, i64_w, i32_w]
      rfl
     refine pure_ (i := 14) (N := some 47) (v := undef) (a' := ?_) #[true, true, true, true, true, true, true, true, true, true, true, true, true, true, true, false, false, false, false, false, false, false, false, false, false, false, false, false] rfl rfl (any_of HT_.out (by kernel_rfl)) (fun _ _ _ h => h) (Or.inr ⟨by rfl, rfl⟩) ?_ ?_
     rotate_left
     ·simp only [Act.put, List.setIfInBounds_toArray, List.set_cons_zero, List.set_cons_succ, i64_w, i32_w]
      rfl
     refine pure_ (i := 15) (N := some 48) (v := ?_) (a' := ?_) #[true, true, true, true, true, true, true, true, true, true, true, true, true, true, true, true, false, false, false, false, false, false, false, false, false, false, false, false] rfl rfl (any_of HT_.out (by kernel_rfl)) (fun _ _ _ h => h) (Or.inl ⟨by rfl, ?_⟩) ?_ ?_
     rotate_left
     ·intro w'
      go_simp
      with_reducible rfl
     rotate_left
     ·simp only [Act.put, List.setIfInBounds_toArray, List.set_cons_zero, List.set_cons_succ, i64_w, i32_w]
      rfl
     refine pure_ (i := 16) (N := some 49) (v := ?_) (a' := ?_) #[true, true, true, true, true, true, true, true, true, true, true, true, true, true, true, true, true, false, false, false, false, false, false, false, false, false, false, false] rfl rfl (any_of HT_.out (by kernel_rfl)) (fun _ _ _ h => h) (Or.inl ⟨by rfl, ?_⟩) ?_ ?_
     rotate_left
     ·intro w'
      go_simp
      with_reducible rfl
     rotate_left
     ·simp only [Act.put, List.setIfInBounds_toArray, List.set_cons_zero, List.set_cons_succ, i64_w, i32_w]
      rfl
     refine pure_ (i := 17) (N := some 50) (v := undef) (a' := ?_) #[true, true, true, true, true, true, true, true, true, true, true, true, true, true, true, true, true, true, false, false, false, false, false, false, false, false, false, false] rfl rfl (any_of HT_.out (by kernel_rfl)) (fun _ _ _ h => h) (Or.inr ⟨by rfl, rfl⟩) ?_ ?_
     rotate_left
     ·simp only [Act.put, List.setIfInBounds_toArray, List.set_cons_zero, List.set_cons_succ, i64_w, i32_w]
      rfl
     refine pure_ (i := 18) (N := some 51) (v := undef) (a' := ?_) #[true, true, true, true, true, true, true, true, true, true, true, true, true, true, true, true, true, true, true, false, false, false, false, false, false, false, false, false] rfl rfl (any_of HT_.out (by kernel_rfl)) (fun _ _ _ h => h) (Or.inr ⟨by rfl, rfl⟩) ?_ ?_
     rotate_left
     ·simp only [Act.put, List.setIfInBounds_toArray, List.set_cons_zero, List.set_cons_succ, i64_w, i32_w]
      rfl
     refine pure_ (i := 19) (N := some 52) (v := undef) (a' := ?_) #[true, true, true, true, true, true, true, true, true, true, true, true, true, true, true, true, true, true, true, true, false, false, false, false, false, false, false, false] rfl rfl (any_of HT_.out (by kernel_rfl)) (fun _ _ _ h => h) (Or.inr ⟨by rfl, rfl⟩) ?_ ?_
     rotate_left
     ·simp only [Act.put, List.setIfInBounds_toArray, List.set_cons_zero, List.set_cons_succ, i64_w, i32_w]
      rfl
     refine pure_ (i := 20) (N := some 53) (v := undef) (a' := ?_) #[true, true, true, true, true, true, true, true, true, true, true, true, true, true, true, true, true, true, true, true, true, false, false, false, false, false, false, false] rfl rfl (any_of HT_.out (by kernel_rfl)) (fun _ _ _ h => h) (Or.inr ⟨by rfl, rfl⟩) ?_ ?_
     rotate_left
     ·simp only [Act.put, List.setIfInBounds_toArray, List.set_cons_zero, List.set_cons_succ, i64_w, i32_w]
      rfl
     refine pure_ (i := 21) (N := some 54) (v := undef) (a' := ?_) #[true, true, true, true, true, true, true, true, true, true, true, true, true, true, true, true, true, true, true, true, true, true, false, false, false, false, false, false] rfl rfl (any_of HT_.out (by kernel_rfl)) (fun _ _ _ h => h) (Or.inr ⟨by rfl, rfl⟩) ?_ ?_
     rotate_left
     ·simp only [Act.put, List.setIfInBounds_toArray, List.set_cons_zero, List.set_cons_succ, i64_w, i32_w]
      rfl
     refine pure_ (i := 22) (N := some 55) (v := undef) (a' := ?_) #[true, true, true, true, true, true, true, true, true, true, true, true, true, true, true, true, true, true, true, true, true, true, true, false, false, false, false, false] rfl rfl (any_of HT_.out (by kernel_rfl)) (fun _ _ _ h => h) (Or.inr ⟨by rfl, rfl⟩) ?_ ?_
     rotate_left
     ·simp only [Act.put, List.setIfInBounds_toArray, List.set_cons_zero, List.set_cons_succ, i64_w, i32_w]
      rfl
     refine pure_ (i := 23) (N := some 56) (v := undef) (a' := ?_) #[true, true, true, true, true, true, true, true, true, true, true, true, true, true, true, true, true, true, true, true, true, true, true, true, false, false, false, false] rfl rfl (any_of HT_.out (by kernel_rfl)) (fun _ _ _ h => h) (Or.inr ⟨by rfl, rfl⟩) ?_ ?_
     rotate_left
     ·simp only [Act.put, List.setIfInBounds_toArray, List.set_cons_zero, List.set_cons_succ, i64_w, i32_w]
      rfl
     refine pure_ (i := 24) (N := some 57) (v := undef) (a' := ?_) #[true, true, true, true, true, true, true, true, true, true, true, true, true, true, true, true, true, true, true, true, true, true, true, true, true, false, false, false] rfl rfl (any_of HT_.out (by kernel_rfl)) (fun _ _ _ h => h) (Or.inr ⟨by rfl, rfl⟩) ?_ ?_
     rotate_left
     ·simp only [Act.put, List.setIfInBounds_toArray, List.set_cons_zero, List.set_cons_succ, i64_w, i32_w]
      rfl
     refine pure_ (i := 25) (N := some 58) (v := undef) (a' := ?_) #[true, true, true, true, true, true, true, true, true, true, true, true, true, true, true, true, true, true, true, true, true, true, true, true, true, true, false, false] rfl rfl (any_of HT_.out (by kernel_rfl)) (fun _ _ _ h => h) (Or.inr ⟨by rfl, rfl⟩) ?_ ?_
     rotate_left
     ·simp only [Act.put, List.setIfInBounds_toArray, List.set_cons_zero, List.set_cons_succ, i64_w, i32_w]
      rfl
     refine pure_ (i := 26) (N := some 59) (v := undef) (a' := ?_) #[true, true, true, true, true, true, true, true, true, true, true, true, true, true, true, true, true, true, true, true, true, true, true, true, true, true, true, false] rfl rfl (any_of HT_.out (by kernel_rfl)) (fun _ _ _ h => h) (Or.inr ⟨by rfl, rfl⟩) ?_ ?_
     rotate_left
     ·simp only [Act.put, List.setIfInBounds_toArray, List.set_cons_zero, List.set_cons_succ, i64_w, i32_w]
      rfl
     refine pure_ (i := 27) (N := some 60) (v := ?_) (a' := ?_) #[true, true, true, true, true, true, true, true, true, true, true, true, true, true, true, true, true, true, true, true, true, true, true, true, true, true, true, true] rfl rfl (any_of HT_.out (by kernel_rfl)) (fun _ _ _ h => h) (Or.inl ⟨by rfl, ?_⟩) ?_ ?_
     rotate_left
     ·intro w'
      go_simp
      with_reducible rfl
     rotate_left
     ·simp only [Act.put, List.setIfInBounds_toArray, List.set_cons_zero, List.set_cons_succ, i64_w, i32_w]
      rfl
     refine done_ (done_of HT_.out (by kernel_rfl)) ?_
     try go_wp2
     go_meet
     case rel => exact ⟨_, (true), (by first | rfl | (simp; done) | (simp [*]; done)), H', ⟨by first | omega | exact Nat.le_refl _⟩, ⟨by (with_reducible repeat (first | apply Kd.N_alloc | apply Kd.N_drewN | apply Kd.N_drew)); exact Kd.N_mono HO341.out (fun _ hk => ⟨hk.1.2, hk.2⟩)⟩, ⟨by (with_reducible repeat (first | apply Kd.R_alloc | apply Kd.R_drewN | apply Kd.R_drew)); exact Kd.R_mono HO347.out (fun _ hk => hk.2)⟩, ⟨by (with_reducible repeat (first | apply Kd.R_alloc | apply Kd.R_drewN | apply Kd.R_drew)); exact Kd.R_mono HO351.out (fun _ hk => hk.2)⟩, ⟨by repeat (first | (with_reducible first | exact HB.out | apply below_alloc | apply pw_below_drewN | apply below_drew1) | exact HB.out)⟩⟩
   ·replace c19 := Bool.eq_false_iff.mpr c19
    subst c19
    have H1 : (kotatsulaw06_DiskWraps.j0 k a2 a3 t339 t345 t348 true) = some r := by rw [if_neg (show ¬ (false = true) by decide)] at H; exact H
    clear H
    have H := H1
    clear H1
    have H' := Aside0.mk H
    clear H
    try go_wp2
    have n0_ := Aside0.mk (Kd.N_drew HO341.out)
    have n1_ := Aside0.mk (Kd.N_drew HO344.out)
    have n2_ := Aside0.mk (Kd.R_drew HO347.out)
    have n3_ := Aside0.mk (Kd.R_drew HO351.out)
    have n4_ := Aside0.mk (below_drew1 HB.out)
    clear HO341
    clear HO344
    clear HO347
    clear HO351
    clear HB
    have HO341 := n0_
    have HO344 := n1_
    have HO347 := n2_
    have HO351 := n3_
    have HB := n4_
    clear n0_ n1_ n2_ n3_ n4_
    refine start_ (n := 28) (S := fun w' => True) (ds := []) #[false, false, false, false, false, false, false, false, false, false, false, false, false, false, false, false, false, false, false, false, false, false, false, false, false, false, false, false] (by kernel_rfl) rfl rfl trivial (fun hHeld => ?_); refine with_tabW kotatsulaw06_DiskWraps.tab6 kotatsulaw06_DiskWraps.bits6 (fun HT_ HW_ => ?_)
    generalize w18.drew = w45 at HO341 HO344 HO347 HO351 HB hHeld ⊢
    refine pure_ (i := 0) (N := some 33) (v := ?_) (a' := ?_) #[true, false, false, false, false, false, false, false, false, false, false, false, false, false, false, false, false, false, false, false, false, false, false, false, false, false, false, false] rfl rfl (any_of HT_.out (by kernel_rfl)) (fun _ _ _ h => h) (Or.inl ⟨by rfl, ?_⟩) ?_ ?_
    rotate_left
    ·intro w'
     go_simp
     with_reducible rfl
    rotate_left
    ·simp only [Act.put, List.setIfInBounds_toArray, List.set_cons_zero, List.set_cons_succ, i64_w, i32_w]
     rfl
    refine pure_ (i := 1) (N := some 34) (v := ?_) (a' := ?_) #[true, true, false, false, false, false, false, false, false, false, false, false, false, false, false, false, false, false, false, false, false, false, false, false, false, false, false, false] rfl rfl (any_of HT_.out (by kernel_rfl)) (fun _ _ _ h => h) (Or.inl ⟨by rfl, ?_⟩) ?_ ?_
    rotate_left
    ·intro w'
     go_simp
     with_reducible rfl
    rotate_left
    ·simp only [Act.put, List.setIfInBounds_toArray, List.set_cons_zero, List.set_cons_succ, i64_w, i32_w]
     rfl
    refine pure_ (i := 2) (N := some 35) (v := ?_) (a' := ?_) #[true, true, true, false, false, false, false, false, false, false, false, false, false, false, false, false, false, false, false, false, false, false, false, false, false, false, false, false] rfl rfl (any_of HT_.out (by kernel_rfl)) (fun _ _ _ h => h) (Or.inl ⟨by rfl, ?_⟩) ?_ ?_
    rotate_left
    ·intro w'
     go_simp
     with_reducible rfl
    rotate_left
    ·simp only [Act.put, List.setIfInBounds_toArray, List.set_cons_zero, List.set_cons_succ, i64_w, i32_w]
     rfl
    refine pure_ (i := 3) (N := some 36) (v := undef) (a' := ?_) #[true, true, true, true, false, false, false, false, false, false, false, false, false, false, false, false, false, false, false, false, false, false, false, false, false, false, false, false] rfl rfl (any_of HT_.out (by kernel_rfl)) (fun _ _ _ h => h) (Or.inr ⟨by rfl, rfl⟩) ?_ ?_
    rotate_left
    ·simp only [Act.put, List.setIfInBounds_toArray, List.set_cons_zero, List.set_cons_succ, i64_w, i32_w]
     rfl
    refine pure_ (i := 4) (N := some 37) (v := undef) (a' := ?_) #[true, true, true, true, true, false, false, false, false, false, false, false, false, false, false, false, false, false, false, false, false, false, false, false, false, false, false, false] rfl rfl (any_of HT_.out (by kernel_rfl)) (fun _ _ _ h => h) (Or.inr ⟨by rfl, rfl⟩) ?_ ?_
    rotate_left
    ·simp only [Act.put, List.setIfInBounds_toArray, List.set_cons_zero, List.set_cons_succ, i64_w, i32_w]
     rfl
    refine pure_ (i := 5) (N := some 38) (v := undef) (a' := ?_) #[true, true, true, true, true, true, false, false, false, false, false, false, false, false, false, false, false, false, false, false, false, false, false, false, false, false, false, false] rfl rfl (any_of HT_.out (by kernel_rfl)) (fun _ _ _ h => h) (Or.inr ⟨by rfl, rfl⟩) ?_ ?_
    rotate_left
    ·simp only [Act.put, List.setIfInBounds_toArray, List.set_cons_zero, List.set_cons_succ, i64_w, i32_w]
     rfl
    refine pure_ (i := 6) (N := some 39) (v := ?_) (a' := ?_) #[true, true, true, true, true, true, true, false, false, false, false, false, false, false, false, false, false, false, false, false, false, false, false, false, false, false, false, false] rfl rfl (any_of HT_.out (by kernel_rfl)) (fun _ _ _ h => h) (Or.inl ⟨by rfl, ?_⟩) ?_ ?_
    rotate_left
    ·intro w'
     go_simp
     with_reducible rfl
    rotate_left
    ·simp only [Act.put, List.setIfInBounds_toArray, List.set_cons_zero, List.set_cons_succ, i64_w, i32_w]
     rfl
    refine pure_ (i := 7) (N := some 40) (v := ?_) (a' := ?_) #[true, true, true, true, true, true, true, true, false, false, false, false, false, false, false, false, false, false, false, false, false, false, false, false, false, false, false, false] rfl rfl (any_of HT_.out (by kernel_rfl)) (fun _ _ _ h => h) (Or.inl ⟨by rfl, ?_⟩) ?_ ?_
    rotate_left
    ·intro w'
     go_simp
     with_reducible rfl
    rotate_left
    ·simp only [Act.put, List.setIfInBounds_toArray, List.set_cons_zero, List.set_cons_succ, i64_w, i32_w]
     rfl
    refine pure_ (i := 8) (N := some 41) (v := undef) (a' := ?_) #[true, true, true, true, true, true, true, true, true, false, false, false, false, false, false, false, false, false, false, false, false, false, false, false, false, false, false, false] rfl rfl (any_of HT_.out (by kernel_rfl)) (fun _ _ _ h => h) (Or.inr ⟨by rfl, rfl⟩) ?_ ?_
    rotate_left
    ·simp only [Act.put, List.setIfInBounds_toArray, List.set_cons_zero, List.set_cons_succ, i64_w, i32_w]
     rfl
    refine pure_ (i := 9) (N := some 42) (v := undef) (a' := ?_) #[true, true, true, true, true, true, true, true, true, true, false, false, false, false, false, false, false, false, false, false, false, false, false, false, false, false, false, false] rfl rfl (any_of HT_.out (by kernel_rfl)) (fun _ _ _ h => h) (Or.inr ⟨by rfl, rfl⟩) ?_ ?_
    rotate_left
    ·simp only [Act.put, List.setIfInBounds_toArray, List.set_cons_zero, List.set_cons_succ, i64_w, i32_w]
     rfl
    refine pure_ (i := 10) (N := some 43) (v := undef) (a' := ?_) #[true, true, true, true, true, true, true, true, true, true, true, false, false, false, false, false, false, false, false, false, false, false, false, false, false, false, false, false] rfl rfl (any_of HT_.out (by kernel_rfl)) (fun _ _ _ h => h) (Or.inr ⟨by rfl, rfl⟩) ?_ ?_
    rotate_left
    ·simp only [Act.put, List.setIfInBounds_toArray, List.set_cons_zero, List.set_cons_succ, i64_w, i32_w]
     rfl
    refine pure_ (i := 11) (N := some 44) (v := undef) (a' := ?_) #[true, true, true, true, true, true, true, true, true, true, true, true, false, false, false, false, false, false, false, false, false, false, false, false, false, false, false, false] rfl rfl (any_of HT_.out (by kernel_rfl)) (fun _ _ _ h => h) (Or.inr ⟨by rfl, rfl⟩) ?_ ?_
    rotate_left
    ·simp only [Act.put, List.setIfInBounds_toArray, List.set_cons_zero, List.set_cons_succ, i64_w, i32_w]
     rfl
    refine pure_ (i := 12) (N := some 45) (v := undef) (a' := ?_) #[true, true, true, true, true, true, true, true, true, true, true, true, true, false, false, false, false, false, false, false, false, false, false, false, false, false, false, false] rfl rfl (any_of HT_.out (by kernel_rfl)) (fun _ _ _ h => h) (Or.inr ⟨by rfl, rfl⟩) ?_ ?_
    rotate_left
    ·simp only [Act.put, List.setIfInBounds_toArray, List.set_cons_zero, List.set_cons_succ, i64_w, i32_w]
     rfl
    refine pure_ (i := 13) (N := some 46) (v := undef) (a' := ?_) #[true, true, true, true, true, true, true, true, true, true, true, true, true, true, false, false, false, false, false, false, false, false, false, false, false, false, false, false] rfl rfl (any_of HT_.out (by kernel_rfl)) (fun _ _ _ h => h) (Or.inr ⟨by rfl, rfl⟩) ?_ ?_
    rotate_left
    ·simp only [Act.put, List.setIfInBounds_toArray, List.set_cons_zero, List.set_cons_succ, i64_w, i32_w]
     rfl
    refine pure_ (i := 14) (N := some 47) (v := undef) (a' := ?_) #[true, true, true, true, true, true, true, true, true, true, true, true, true, true, true, false, false, false, false, false, false, false, false, false, false, false, false, false] rfl rfl (any_of HT_.out (by kernel_rfl)) (fun _ _ _ h => h) (Or.inr ⟨by rfl, rfl⟩) ?_ ?_
    rotate_left
    ·simp only [Act.put, List.setIfInBounds_toArray, List.set_cons_zero, List.set_cons_succ, i64_w, i32_w]
     rfl
    refine pure_ (i := 15) (N := some 48) (v := ?_) (a' := ?_) #[true, true, true, true, true, true, true, true, true, true, true, true, true, true, true, true, false, false, false, false, false, false, false, false, false, false, false, false] rfl rfl (any_of HT_.out (by kernel_rfl)) (fun _ _ _ h => h) (Or.inl ⟨by rfl, ?_⟩) ?_ ?_
    rotate_left
    ·intro w'
     go_simp
     with_reducible rfl
    rotate_left
    ·simp only [Act.put, List.setIfInBounds_toArray, List.set_cons_zero, List.set_cons_succ, i64_w, i32_w]
     rfl
    refine pure_ (i := 16) (N := some 49) (v := ?_) (a' := ?_) #[true, true, true, true, true, true, true, true, true, true, true, true, true, true, true, true, true, false, false, false, false, false, false, false, false, false, false, false] rfl rfl (any_of HT_.out (by kernel_rfl)) (fun _ _ _ h => h) (Or.inl ⟨by rfl, ?_⟩) ?_ ?_
    rotate_left
    ·intro w'
     go_simp
     with_reducible rfl
    rotate_left
    ·simp only [Act.put, List.setIfInBounds_toArray, List.set_cons_zero, List.set_cons_succ, i64_w, i32_w]
     rfl
    refine pure_ (i := 17) (N := some 50) (v := undef) (a' := ?_) #[true, true, true, true, true, true, true, true, true, true, true, true, true, true, true, true, true, true, false, false, false, false, false, false, false, false, false, false] rfl rfl (any_of HT_.out (by kernel_rfl)) (fun _ _ _ h => h) (Or.inr ⟨by rfl, rfl⟩) ?_ ?_
    rotate_left
    ·simp only [Act.put, List.setIfInBounds_toArray, List.set_cons_zero, List.set_cons_succ, i64_w, i32_w]
     rfl
    refine pure_ (i := 18) (N := some 51) (v := undef) (a' := ?_) #[true, true, true, true, true, true, true, true, true, true, true, true, true, true, true, true, true, true, true, false, false, false, false, false, false, false, false, false] rfl rfl (any_of HT_.out (by kernel_rfl)) (fun _ _ _ h => h) (Or.inr ⟨by rfl, rfl⟩) ?_ ?_
    rotate_left
    ·simp only [Act.put, List.setIfInBounds_toArray, List.set_cons_zero, List.set_cons_succ, i64_w, i32_w]
     rfl
    refine pure_ (i := 19) (N := some 52) (v := undef) (a' := ?_) #[true, true, true, true, true, true, true, true, true, true, true, true, true, true, true, true, true, true, true, true, false, false, false, false, false, false, false, false] rfl rfl (any_of HT_.out (by kernel_rfl)) (fun _ _ _ h => h) (Or.inr ⟨by rfl, rfl⟩) ?_ ?_
    rotate_left
    ·simp only [Act.put, List.setIfInBounds_toArray, List.set_cons_zero, List.set_cons_succ, i64_w, i32_w]
     rfl
    refine pure_ (i := 20) (N := some 53) (v := undef) (a' := ?_) #[true, true, true, true, true, true, true, true, true, true, true, true, true, true, true, true, true, true, true, true, true, false, false, false, false, false, false, false] rfl rfl (any_of HT_.out (by kernel_rfl)) (fun _ _ _ h => h) (Or.inr ⟨by rfl, rfl⟩) ?_ ?_
    rotate_left
    ·simp only [Act.put, List.setIfInBounds_toArray, List.set_cons_zero, List.set_cons_succ, i64_w, i32_w]
     rfl
    refine pure_ (i := 21) (N := some 54) (v := undef) (a' := ?_) #[true, true, true, true, true, true, true, true, true, true, true, true, true, true, true, true, true, true, true, true, true, true, false, false, false, false, false, false] rfl rfl (any_of HT_.out (by kernel_rfl)) (fun _ _ _ h => h) (Or.inr ⟨by rfl, rfl⟩) ?_ ?_
    rotate_left
    ·simp only [Act.put, List.setIfInBounds_toArray, List.set_cons_zero, List.set_cons_succ, i64_w, i32_w]
     rfl
    refine pure_ (i := 22) (N := some 55) (v := undef) (a' := ?_) #[true, true, true, true, true, true, true, true, true, true, true, true, true, true, true, true, true, true, true, true, true, true, true, false, false, false, false, false] rfl rfl (any_of HT_.out (by kernel_rfl)) (fun _ _ _ h => h) (Or.inr ⟨by rfl, rfl⟩) ?_ ?_
    rotate_left
    ·simp only [Act.put, List.setIfInBounds_toArray, List.set_cons_zero, List.set_cons_succ, i64_w, i32_w]
     rfl
    refine pure_ (i := 23) (N := some 56) (v := undef) (a' := ?_) #[true, true, true, true, true, true, true, true, true, true, true, true, true, true, true, true, true, true, true, true, true, true, true, true, false, false, false, false] rfl rfl (any_of HT_.out (by kernel_rfl)) (fun _ _ _ h => h) (Or.inr ⟨by rfl, rfl⟩) ?_ ?_
    rotate_left
    ·simp only [Act.put, List.setIfInBounds_toArray, List.set_cons_zero, List.set_cons_succ, i64_w, i32_w]
     rfl
    refine pure_ (i := 24) (N := some 57) (v := undef) (a' := ?_) #[true, true, true, true, true, true, true, true, true, true, true, true, true, true, true, true, true, true, true, true, true, true, true, true, true, false, false, false] rfl rfl (any_of HT_.out (by kernel_rfl)) (fun _ _ _ h => h) (Or.inr ⟨by rfl, rfl⟩) ?_ ?_
    rotate_left
    ·simp only [Act.put, List.setIfInBounds_toArray, List.set_cons_zero, List.set_cons_succ, i64_w, i32_w]
     rfl
    refine pure_ (i := 25) (N := some 58) (v := undef) (a' := ?_) #[true, true, true, true, true, true, true, true, true, true, true, true, true, true, true, true, true, true, true, true, true, true, true, true, true, true, false, false] rfl rfl (any_of HT_.out (by kernel_rfl)) (fun _ _ _ h => h) (Or.inr ⟨by rfl, rfl⟩) ?_ ?_
    rotate_left
    ·simp only [Act.put, List.setIfInBounds_toArray, List.set_cons_zero, List.set_cons_succ, i64_w, i32_w]
     rfl
    refine pure_ (i := 26) (N := some 59) (v := undef) (a' := ?_) #[true, true, true, true, true, true, true, true, true, true, true, true, true, true, true, true, true, true, true, true, true, true, true, true, true, true, true, false] rfl rfl (any_of HT_.out (by kernel_rfl)) (fun _ _ _ h => h) (Or.inr ⟨by rfl, rfl⟩) ?_ ?_
    rotate_left
    ·simp only [Act.put, List.setIfInBounds_toArray, List.set_cons_zero, List.set_cons_succ, i64_w, i32_w]
     rfl
    refine pure_ (i := 27) (N := some 60) (v := ?_) (a' := ?_) #[true, true, true, true, true, true, true, true, true, true, true, true, true, true, true, true, true, true, true, true, true, true, true, true, true, true, true, true] rfl rfl (any_of HT_.out (by kernel_rfl)) (fun _ _ _ h => h) (Or.inl ⟨by rfl, ?_⟩) ?_ ?_
    rotate_left
    ·intro w'
     go_simp
     with_reducible rfl
    rotate_left
    ·simp only [Act.put, List.setIfInBounds_toArray, List.set_cons_zero, List.set_cons_succ, i64_w, i32_w]
     rfl
    refine done_ (done_of HT_.out (by kernel_rfl)) ?_
    try go_wp2
    go_meet
    case rel => exact ⟨_, (true), (by first | rfl | (simp; done) | (simp [*]; done)), H', ⟨by first | omega | exact Nat.le_refl _⟩, ⟨by (with_reducible repeat (first | apply Kd.N_alloc | apply Kd.N_drewN | apply Kd.N_drew)); exact Kd.N_mono HO341.out (fun _ hk => ⟨hk.1.2, hk.2⟩)⟩, ⟨by (with_reducible repeat (first | apply Kd.R_alloc | apply Kd.R_drewN | apply Kd.R_drew)); exact Kd.R_mono HO347.out (fun _ hk => hk.2)⟩, ⟨by (with_reducible repeat (first | apply Kd.R_alloc | apply Kd.R_drewN | apply Kd.R_drew)); exact Kd.R_mono HO351.out (fun _ hk => hk.2)⟩, ⟨by repeat (first | (with_reducible first | exact HB.out | apply below_alloc | apply pw_below_drewN | apply below_drew1) | exact HB.out)⟩⟩
  case rest =>
   clear HC11
   try clear c1
   try clear c2
   try clear p2
   try clear q4
   try clear c14
   try clear c19
   try clear c20
   try clear c20b0
   try clear c20b1
   try clear c21
   try clear c22
   try clear q42
   try clear q42
   obtain ⟨kq, x60_10, rfl, HA, HJ10, HO_9, HO_10, HO_11, HB⟩ := hcut
   cases kq with
   | zero => exact absurd HA.out (by simp [kotatsulaw06_DiskWraps.j0])
   | succ kj10 =>
    have H := HA.out
    clear HA
    simp only [kotatsulaw06_DiskWraps.j0] at H
    by_cases c46 : x60_10 = true
    ·subst c46
     have H1 : (some false) = some r := by rw [if_pos rfl] at H; exact H
     clear H
     have H := H1
     clear H1
     obtain rfl := Option.some.inj H
     go_wp2
     go_ret
     exact ⟨by first | rfl | (simp [errW_none, errW_some] <;> rfl) | (simp [*, errW_none, errW_some] <;> rfl), by repeat (first | (with_reducible first | exact HB.out | apply below_alloc | apply pw_below_drewN | apply below_drew1) | exact HB.out)⟩
    ·replace c46 := Bool.eq_false_iff.mpr c46
     subst c46
     have H1 : ((disk_Unwrap.f kj10 t348).bind fun bt367 => (if bt367.2 = 0 then ((block_Same.f bt367.1 t339).bind fun t371 => (kotatsulaw06_DiskWraps.j1 kj10 a2 a3 t345 (!t371))) else (kotatsulaw06_DiskWraps.j1 kj10 a2 a3 t345 true))) = some r := by rw [if_neg (show ¬ (false = true) by decide)] at H; exact H
     clear H
     have H := H1
     clear H1
     replace H := Option.bind_eq_some_iff.mp H
     obtain ⟨⟨t367, t370⟩, A470, H⟩ := H
     replace H : (if t370 = 0 then ((block_Same.f t367 t339).bind fun t371 => (kotatsulaw06_DiskWraps.j1 kj10 a2 a3 t345 (!t371))) else (kotatsulaw06_DiskWraps.j1 kj10 a2 a3 t345 true)) = some r := H
     have A47 := Aside0.mk A470
     clear A470
     have HC48 := Aside0.mk H
     clear H
     obtain ⟨Ao49, co49, eo49⟩ := Kd.R_slice HO_11.out
     subst eo49
     go_upto_region 9 with (first | ((with_reducible refine gate_callee (f := 21) rfl ?_); refine goesL_ (some 63) rfl rfl Try.func21 (by kernel_rfl) rfl #[.slice Ao49 t348.length co49] rfl (by (try simp only [List.map_toArray, List.map_cons, List.map_nil]); first | done | rfl | (simp only [List.length_drop, List.length_take]; rfl)) ?_; (with_reducible refine (disk_Unwrap.calls kj10 _ _ t348 t367 t370 _ ?side1 ?side2 A47.out).mono ?_); (case side1 => repeat (first | exact (Kd.R_reads' HO_11.out).2.2 | (with_reducible refine Kd.C_alloc ?_ _) | (with_reducible refine Kd.C_drewN ?_ _) | (with_reducible refine Kd.C_drew ?_))); (case side2 => exact (Kd.R_reads' HO_11.out).2.1); rintro e w50 ⟨v368, rfl, ho0, hb⟩; refine ⟨_, rfl, ?_⟩; have n0_ := Aside0.mk (Kd.N_elder' (by (with_reducible repeat (first | apply Kd.N_alloc | apply Kd.N_drewN | apply Kd.N_drew)); exact HO_9.out) (Kd.N_base ho0) hb); have n1_ := Aside0.mk (Kd.R_below (by (with_reducible repeat (first | apply Kd.R_alloc | apply Kd.R_drewN | apply Kd.R_drew)); exact HO_10.out) hb); have n2_ := Aside0.mk (Kd.R_below (by (with_reducible repeat (first | apply Kd.R_alloc | apply Kd.R_drewN | apply Kd.R_drew)); exact HO_11.out) hb); have n3_ := Aside0.mk (Kd.N_lower (Kd.N_mono (ok' := fun k_ => some k_ ≠ (.slice Ao14 t339.length co14 : Value).ownBlock ∧ some k_ ≠ (v346 : Value).ownBlock ∧ some k_ ≠ (.slice Ao49 t348.length co49 : Value).ownBlock) ho0 (fun k_ hk_ => ⟨(Kd.fresh' (Kd.N_lt (by (with_reducible repeat (first | apply Kd.N_alloc | apply Kd.N_drewN | apply Kd.N_drew)); exact HO_9.out)) k_ hk_), (Kd.fresh' (Kd.R_lt (by (with_reducible repeat (first | apply Kd.R_alloc | apply Kd.R_drewN | apply Kd.R_drew)); exact HO_10.out)) k_ hk_), (Kd.fresh' (Kd.R_lt (by (with_reducible repeat (first | apply Kd.R_alloc | apply Kd.R_drewN | apply Kd.R_drew)); exact HO_11.out)) k_ hk_)⟩)) (below_size (by repeat (first | (with_reducible first | exact HB.out | apply below_alloc | apply pw_below_drewN | apply below_drew1) | exact HB.out)))); have n4_ := Aside0.mk (below_step (by repeat (first | (with_reducible first | exact HB.out | apply below_alloc | apply pw_below_drewN | apply below_drew1) | exact HB.out)) hb); clear HO_9; clear HO_10; clear HO_11; clear HB; have HO_9 := n0_; have HO_10 := n1_; have HO_11 := n2_; have HO369 := n3_; have HB := n4_; clear n0_ n1_ n2_ n3_ n4_; (try clear hb); (try clear hb2); (try clear hk); (try clear hi); (try clear ho0)))
     (try simp only [Act.put, List.setIfInBounds_toArray, List.set_cons_zero, List.set_cons_succ])
     go_cut [73] (fun v73 wc => ∃ (kq : Nat) (x73_47 : Bool), v73 = .bool x73_47 ∧ Aside0 (kotatsulaw06_DiskWraps.j1 kq a2 a3 t345 x73_47 = some r) ∧ Aside0 (kq ≤ kj10) ∧ Aside0 (Kd.R (Kd.int .u8) 5 wc w.heap.size (fun _ => True) v346 t345) ∧ Aside0 (Below w.heap.size w wc))
     case first =>
      have H := HC48.out
      clear HC48
      by_cases c51 : t370 = 0
      ·rw [if_pos c51] at H
       have c51b0 : (t370 == 0) = true := beq_iff_eq.mpr c51
       have c51b1 : (t370 != 0) = false := bne_eq_false_iff_eq.mpr c51
       clear c51
       (first | rw [c51b0] | (simp only [i64_w, i32_w]; rw [c51b0]) | skip)
       replace H := Option.bind_eq_some_iff.mp H
       obtain ⟨t371, A520, H⟩ := H
       replace H : (kotatsulaw06_DiskWraps.j1 kj10 a2 a3 t345 (!t371)) = some r := H
       have A52 := Aside0.mk A520
       clear A520
       have H' := Aside0.mk H
       clear H
       obtain ⟨Ao53, co53, eo53⟩ := Kd.N_slice HO369.out
       subst eo53
       go_wp2_with (first | (go_at_call 25; (with_reducible refine (block_Same.calls _ _ t367 _ _ t339 t371 _ ?side1 ?side2 ?side3 ?side4 A52.out).mono ?_); (case side1 => repeat (first | exact (Kd.N_reads' HO369.out).2.2 | (with_reducible refine Kd.C_alloc ?_ _) | (with_reducible refine Kd.C_drewN ?_ _) | (with_reducible refine Kd.C_drew ?_))); (case side2 => exact (Kd.N_reads' HO369.out).2.1); (case side3 => repeat (first | exact (Kd.N_reads' HO_9.out).2.2 | (with_reducible refine Kd.C_alloc ?_ _) | (with_reducible refine Kd.C_drewN ?_ _) | (with_reducible refine Kd.C_drew ?_))); (case side4 => exact (Kd.N_reads' HO_9.out).2.1); rintro e w54 ⟨rfl, hb⟩; have n0_ := Aside0.mk (Kd.N_below (by (with_reducible repeat (first | apply Kd.N_alloc | apply Kd.N_drewN | apply Kd.N_drew)); exact HO_9.out) hb); have n1_ := Aside0.mk (Kd.R_below (by (with_reducible repeat (first | apply Kd.R_alloc | apply Kd.R_drewN | apply Kd.R_drew)); exact HO_10.out) hb); have n2_ := Aside0.mk (Kd.R_below (by (with_reducible repeat (first | apply Kd.R_alloc | apply Kd.R_drewN | apply Kd.R_drew)); exact HO_11.out) hb); have n3_ := Aside0.mk (Kd.N_below (by (with_reducible repeat (first | apply Kd.N_alloc | apply Kd.N_drewN | apply Kd.N_drew)); exact HO369.out) hb); have n4_ := Aside0.mk (below_step (by repeat (first | (with_reducible first | exact HB.out | apply below_alloc | apply pw_below_drewN | apply below_drew1) | exact HB.out)) hb); clear HO_9; clear HO_10; clear HO_11; clear HO369; clear HB; have HO_9 := n0_; have HO_10 := n1_; have HO_11 := n2_; have HO369 := n3_; have HB := n4_; clear n0_ n1_ n2_ n3_ n4_; (try clear hb); (try clear hb2); (try clear hk); (try clear hi)))
       go_meet
       case rel => exact ⟨_, (!t371), (by first | rfl | (simp; done) | (simp [*]; done)), H', ⟨by have := HJ10.out; first | omega | exact Nat.le_refl _⟩, ⟨by (with_reducible repeat (first | apply Kd.R_alloc | apply Kd.R_drewN | apply Kd.R_drew)); exact Kd.R_mono HO_10.out (fun _ hk => trivial)⟩, ⟨by repeat (first | (with_reducible first | exact HB.out | apply below_alloc | apply pw_below_drewN | apply below_drew1) | exact HB.out)⟩⟩
      ·rw [if_neg c51] at H
       have c51b0 : (t370 == 0) = false := beq_eq_false_iff_ne.mpr c51
       have c51b1 : (t370 != 0) = true := bne_iff_ne.mpr c51
       (first | rw [c51b0] | (simp only [i64_w, i32_w]; rw [c51b0]) | skip)
       have H' := Aside0.mk H
       clear H
       go_wp2
       go_meet
       case rel => exact ⟨_, (true), (by first | rfl | (simp; done) | (simp [*]; done)), H', ⟨by have := HJ10.out; first | omega | exact Nat.le_refl _⟩, ⟨by (with_reducible repeat (first | apply Kd.R_alloc | apply Kd.R_drewN | apply Kd.R_drew)); exact Kd.R_mono HO_10.out (fun _ hk => trivial)⟩, ⟨by repeat (first | (with_reducible first | exact HB.out | apply below_alloc | apply pw_below_drewN | apply below_drew1) | exact HB.out)⟩⟩
     case rest =>
      clear HC48
      try clear c1
      try clear c2
      try clear p2
      try clear c4
      try clear q4
      try clear c5
      try clear c14
      try clear c19
      try clear c20
      try clear c20b0
      try clear c20b1
      try clear c21
      try clear c22
      try clear q42
      try clear c46
      try clear c51
      try clear c51b0
      try clear c51b1
      try clear p2
      try clear q4
      try clear q42
      obtain ⟨kq, x73_47, rfl, HA, HJ47, HO_10, HB⟩ := hcut
      cases kq with
      | zero => exact absurd HA.out (by simp [kotatsulaw06_DiskWraps.j1])
      | succ kj47 =>
       have H := HA.out
       clear HA
       simp only [kotatsulaw06_DiskWraps.j1] at H
       by_cases c55 : x73_47 = true
       ·subst c55
        have H1 : (some false) = some r := by rw [if_pos rfl] at H; exact H
        clear H
        have H := H1
        clear H1
        obtain rfl := Option.some.inj H
        go_wp2
        go_ret
        exact ⟨by first | rfl | (simp [errW_none, errW_some] <;> rfl) | (simp [*, errW_none, errW_some] <;> rfl), by repeat (first | (with_reducible first | exact HB.out | apply below_alloc | apply pw_below_drewN | apply below_drew1) | exact HB.out)⟩
       ·replace c55 := Bool.eq_false_iff.mpr c55
        subst c55
        have H1 : ((kotatsuref01_Join.f kj47 (([t345] : List (List Int)))).bind fun t375 => (if (t375.length : Int) = 0 then (none) else (if 0 ≤ (Int.tmod (wrap64 (a2)) (t375.length : Int)) then (if (Int.tmod (wrap64 (a2)) (t375.length : Int)) < (t375.length : Int) then ((some (t375.set ((Int.tmod (wrap64 (a2)) (t375.length : Int)) : Int).toNat (Go.bits .xor .u8 (rd t375 (Int.tmod (wrap64 (a2)) (t375.length : Int))) a3) : List Int)).bind fun y379 => ((disk_Unwrap.f kj47 y379).bind fun bt380 => ((kotatsuref06_Unwrap.f kj47 y379).bind fun bt384 => (if bt380.2 = bt384.2 then ((kotatsulaw06_own.f kj47 bt380.1).bind fun t388 => ((kotatsuref05_Same.f kj47 t388 bt384.1).bind fun t391 => (some t391))) else (some false))))) else (none)) else (none)))) = some r := by rw [if_neg (show ¬ (false = true) by decide)] at H; exact H
        clear H
        have H := H1
        clear H1
        obtain ⟨y372, hy372⟩ : ∃ y_ : List (List Int), y_ = (([t345] : List (List Int))) := ⟨_, rfl⟩
        replace H : ((kotatsuref01_Join.f kj47 y372).bind fun t375 => (if (t375.length : Int) = 0 then (none) else (if 0 ≤ (Int.tmod (wrap64 (a2)) (t375.length : Int)) then (if (Int.tmod (wrap64 (a2)) (t375.length : Int)) < (t375.length : Int) then ((some (t375.set ((Int.tmod (wrap64 (a2)) (t375.length : Int)) : Int).toNat (Go.bits .xor .u8 (rd t375 (Int.tmod (wrap64 (a2)) (t375.length : Int))) a3) : List Int)).bind fun y379 => ((disk_Unwrap.f kj47 y379).bind fun bt380 => ((kotatsuref06_Unwrap.f kj47 y379).bind fun bt384 => (if bt380.2 = bt384.2 then ((kotatsulaw06_own.f kj47 bt380.1).bind fun t388 => ((kotatsuref05_Same.f kj47 t388 bt384.1).bind fun t391 => (some t391))) else (some false))))) else (none)) else (none)))) = some r := by first | (rw [hy372]; with_reducible exact H) | (have H2_ := (Option.bind_some _ _).symm.trans H; rw [hy372]; with_reducible exact H2_) | (have H2_ := (Option.bind_some _ _).symm.trans H; with_reducible exact H2_) | with_reducible exact H | (rw [hy372]; exact H) | exact H
        have Ny372 := Aside0.mk hy372
        clear hy372
        replace H := Option.bind_eq_some_iff.mp H
        obtain ⟨t375, A560, H⟩ := H
        replace H : (if (t375.length : Int) = 0 then (none) else (if 0 ≤ (Int.tmod (wrap64 (a2)) (t375.length : Int)) then (if (Int.tmod (wrap64 (a2)) (t375.length : Int)) < (t375.length : Int) then ((some (t375.set ((Int.tmod (wrap64 (a2)) (t375.length : Int)) : Int).toNat (Go.bits .xor .u8 (rd t375 (Int.tmod (wrap64 (a2)) (t375.length : Int))) a3) : List Int)).bind fun y379 => ((disk_Unwrap.f kj47 y379).bind fun bt380 => ((kotatsuref06_Unwrap.f kj47 y379).bind fun bt384 => (if bt380.2 = bt384.2 then ((kotatsulaw06_own.f kj47 bt380.1).bind fun t388 => ((kotatsuref05_Same.f kj47 t388 bt384.1).bind fun t391 => (some t391))) else (some false))))) else (none)) else (none))) = some r := H
        have A56 := Aside0.mk A560
        clear A560
        by_cases c57 : (t375.length : Int) = 0
        ·rw [if_pos c57] at H
         exact absurd H (by simp)
        ·rw [if_neg c57] at H
         have c57b0 : ((t375.length : Int) == 0) = false := beq_eq_false_iff_ne.mpr c57
         have c57b1 : ((t375.length : Int) != 0) = true := bne_iff_ne.mpr c57
         have c57b2 : ¬ (t375 = []) := fun h_ => c57 (by rw [h_]; rfl)
         obtain ⟨ji58, hji58⟩ : ∃ j_ : Int, (Int.tmod (wrap64 (a2)) (t375.length : Int)) = j_ := ⟨_, rfl⟩
         replace H : (if 0 ≤ (ji58) then (if (ji58) < (t375.length : Int) then ((some (t375.set ((ji58) : Int).toNat (Go.bits .xor .u8 (rd t375 (ji58)) a3) : List Int)).bind fun y379 => ((disk_Unwrap.f kj47 y379).bind fun bt380 => ((kotatsuref06_Unwrap.f kj47 y379).bind fun bt384 => (if bt380.2 = bt384.2 then ((kotatsulaw06_own.f kj47 bt380.1).bind fun t388 => ((kotatsuref05_Same.f kj47 t388 bt384.1).bind fun t391 => (some t391))) else (some false))))) else (none)) else (none)) = some r := by first | (rw [hji58] at H; exact H) | (simp only [hji58] at H ⊢; exact H)
         (try rw [hji58] at A56)
         by_cases c59 : 0 ≤ (ji58)
         ·rw [if_pos c59] at H
          have c59b0 : decide (0 ≤ (ji58)) = true := decide_eq_true c59
          clear c59
          by_cases c60 : (ji58) < (t375.length : Int)
          ·rw [if_pos c60] at H
           have c60b0 : decide ((ji58) < (t375.length : Int)) = true := decide_eq_true c60
           clear c60
           obtain ⟨y379, hy379⟩ : ∃ y_ : List Int, y_ = (t375.set ((ji58) : Int).toNat (Go.bits .xor .u8 (rd t375 (ji58)) a3)) := ⟨_, rfl⟩
           replace H : ((disk_Unwrap.f kj47 y379).bind fun bt380 => ((kotatsuref06_Unwrap.f kj47 y379).bind fun bt384 => (if bt380.2 = bt384.2 then ((kotatsulaw06_own.f kj47 bt380.1).bind fun t388 => ((kotatsuref05_Same.f kj47 t388 bt384.1).bind fun t391 => (some t391))) else (some false)))) = some r := by first | (rw [hy379]; with_reducible exact H) | (have H2_ := (Option.bind_some _ _).symm.trans H; rw [hy379]; with_reducible exact H2_) | (have H2_ := (Option.bind_some _ _).symm.trans H; with_reducible exact H2_) | with_reducible exact H | (rw [hy379]; exact H) | exact H
           have Ny379 := Aside0.mk hy379
           clear hy379
           replace H := Option.bind_eq_some_iff.mp H
           obtain ⟨⟨t380, t383⟩, A620, H⟩ := H
           replace H : ((kotatsuref06_Unwrap.f kj47 y379).bind fun bt384 => (if t383 = bt384.2 then ((kotatsulaw06_own.f kj47 t380).bind fun t388 => ((kotatsuref05_Same.f kj47 t388 bt384.1).bind fun t391 => (some t391))) else (some false))) = some r := H
           have A62 := Aside0.mk A620
           clear A620
           replace H := Option.bind_eq_some_iff.mp H
           obtain ⟨⟨t384, t387⟩, A630, H⟩ := H
           replace H : (if t383 = t387 then ((kotatsulaw06_own.f kj47 t380).bind fun t388 => ((kotatsuref05_Same.f kj47 t388 t384).bind fun t391 => (some t391))) else (some false)) = some r := H
           have A63 := Aside0.mk A630
           clear A630
           by_cases c64 : t383 = t387
           ·rw [if_pos c64] at H
            have c64b0 : (t383 == t387) = true := beq_iff_eq.mpr c64
            have c64b1 : (t383 != t387) = false := bne_eq_false_iff_eq.mpr c64
            clear c64
            replace H := Option.bind_eq_some_iff.mp H
            obtain ⟨t388, A650, H⟩ := H
            replace H : ((kotatsuref05_Same.f kj47 t388 t384).bind fun t391 => (some t391)) = some r := H
            have A65 := Aside0.mk A650
            clear A650
            replace H := Option.bind_eq_some_iff.mp H
            obtain ⟨t391, A660, H⟩ := H
            replace H : (some t391) = some r := H
            have A66 := Aside0.mk A660
            clear A660
            obtain rfl := Option.some.inj H
            obtain ⟨Ao67, co67, eo67⟩ := Kd.R_slice HO_10.out
            subst eo67
            go_wp2_with (first | ((with_reducible refine gate_dst (N := 75) rfl ?_); (try (refine gate_guard (by rfl) ?_; dsimp only)); refine Kd.N_lit (Kd.slice 5 (Kd.int .u8)) _ 22 ?hg (N' := 75) ?hd (xs := ([t345] : List (List Int))) (inner := [.slice Ao67 t345.length co67]) (ok := (fun _ => True)) (okp := (fun _ => True)) ?hr ?hp (fun _ hk => hk) ((show ∀ k_, wc.heap.size ≤ k_ → (fun _ => True) k_ from fun k_ hk => trivial) _ (Nat.le_refl _)) (Below.refl _ _) (Nat.le_refl _) (by simp) ?_; (case hd => rfl); (case hg => rfl); (case hr => first | (go_simp; done) | (go_simp; rfl)); (case hp => exact (Reps.one (show Kd.FK (Kd.slice 5 (Kd.int .u8)) _ _ t345 [.slice Ao67 t345.length co67] from (Kd.FK_slice_mk (Kd.R_reads' (Kd.R_mono (ok' := (fun _ => True)) (HO_10.out) (fun k_ hk => trivial))).2.1 (Kd.R_F (Kd.R_mono (ok' := (fun _ => True)) (HO_10.out) (fun k_ hk => trivial))))) (Reps.none _ _))); intro v373 w68 ho69 hb hg_ hnew_; clear hg_ hnew_; (first | rw [← Ny372.out] at ho69 | (simp only [Int.reduceToNat] at ho69; rw [← Ny372.out] at ho69)); have n0_ := Aside0.mk (Kd.N_lower ho69 (below_size (by repeat (first | (with_reducible first | exact HB.out | apply below_alloc | apply pw_below_drewN | apply below_drew1) | exact HB.out)))); have n1_ := Aside0.mk (below_step (by repeat (first | (with_reducible first | exact HB.out | apply below_alloc | apply pw_below_drewN | apply below_drew1) | exact HB.out)) hb); clear HB; clear HO_10; have HO374 := n0_; have HB := n1_; clear n0_ n1_; clear hb ho69; obtain ⟨Ao70, co70, eo70⟩ := Kd.N_slice HO374.out; subst eo70) | ((with_reducible refine gate_callee (f := 11) rfl ?_); refine goesL_ (some 76) rfl rfl Try.func11 (by kernel_rfl) rfl #[.slice Ao70 y372.length co70] rfl (by (try simp only [List.map_toArray, List.map_cons, List.map_nil]); first | done | rfl | (simp only [List.length_drop, List.length_take]; rfl)) ?_; (with_reducible refine (kotatsuref01_Join.calls kj47 _ _ y372 t375 _ ?side1 ?side2 A56.out).mono ?_); (case side1 => repeat (first | exact (Kd.N_reads' HO374.out).2.2 | (with_reducible refine Kd.C_alloc ?_ _) | (with_reducible refine Kd.C_drewN ?_ _) | (with_reducible refine Kd.C_drew ?_))); (case side2 => exact (Kd.N_reads' HO374.out).2.1); rintro e w71 ⟨v376, rfl, ho0, hb⟩; refine ⟨_, rfl, ?_⟩; have n0_ := Aside0.mk (Kd.N_elder' (by (with_reducible repeat (first | apply Kd.N_alloc | apply Kd.N_drewN | apply Kd.N_drew)); exact HO374.out) (Kd.R_base ho0) hb); have n1_ := Aside0.mk (Kd.R_lower ho0 (below_size (by repeat (first | (with_reducible first | exact HB.out | apply below_alloc | apply pw_below_drewN | apply below_drew1) | exact HB.out)))); have n2_ := Aside0.mk (below_step (by repeat (first | (with_reducible first | exact HB.out | apply below_alloc | apply pw_below_drewN | apply below_drew1) | exact HB.out)) hb); clear HO374; clear HB; have HO374 := n0_; have HO377 := n1_; have HB := n2_; clear n0_ n1_ n2_; (try clear hb); (try clear hb2); (try clear hk); (try clear hi); (try clear ho0); obtain ⟨Ao72, co72, eo72⟩ := Kd.R_slice HO377.out; subst eo72; have p378 : 0 ≤ ((ji58) : Int) := of_decide_eq_true (by first | (with_reducible assumption) | assumption); have q378 : (ji58) < (t375.length : Int) := of_decide_eq_true (by first | (with_reducible assumption) | assumption); obtain ⟨ad378, e378, hx378_0⟩ := Kd.at_int (Kd.R_reads' HO377.out).2.2 (ji58) p378 q378; cases e378; replace p378 := eq_true p378; replace q378 := eq_true q378; have p61 : 0 ≤ ((ji58) : Int) := of_decide_eq_true (by first | (with_reducible assumption) | assumption); have q61 : ((ji58) : Int) < ((t375.length : Int) : Int) := of_decide_eq_true (by first | (with_reducible assumption) | assumption); obtain ⟨go61, co61, eo61, gb61, gl61, cl61, HG61⟩ := Kd.R_form HO377.out (by omega); (first | cases eo61 | (injection eo61 with ea_ en_ ec_; (first | subst ea_ | (injection ea_ with ea_; subst ea_)); subst ec_; clear en_)); have GB61 := Aside0.mk gb61; have GG61 := Aside0.mk HG61; clear gb61 gl61 HG61; (first | simp only [add_plain] at hx378_0 | skip); obtain ⟨hx61_0, hf61_0⟩ := Kd.R_celln 0 HO377.out ((ji58) : Int) p61 q61; replace p61 := eq_true p61; replace q61 := eq_true q61; obtain ⟨hy73_, hz73_⟩ := Kd.R_celln 0 HO377.out ((ji58) : Int) (of_decide_eq_true (by first | (with_reducible assumption) | assumption)) (of_decide_eq_true (by first | (with_reducible assumption) | assumption)); have HP73 := Kd.R_putg HO377.out ((ji58) : Int) (Go.bits .xor .u8 (rd t375 (ji58)) a3)) | ((with_reducible refine gate_store (t := 5) (p := 87) rfl ?_); refine store_event (t := 5) (p := 87) (v := ?vo_w74) (w1 := (w71.setCell ⟨go61, ((ji58) : Int).toNat, none⟩ (.int .u8 (Go.bits .xor .u8 (rd t375 (ji58)) a3)))) ?hg ?ho ?hn ?hr ?_; (case ho => rfl); (case hg => rfl); (case hn => rfl); (case hr => first | (go_simp; done) | (go_simp; rfl)); intro w74 hw; have hg : w71.grownBy w74 (some go61) := (by rw [hw]; exact HP73.2); have hp_ : Kd.R (Kd.int .u8) 5 w74 w.heap.size (fun _ => True) (.slice (some ⟨go61, 0, none⟩) t375.length co72) y379 := (by rw [hw, Ny379.out]; exact HP73.1); clear HP73; have n0_ := Aside0.mk (Kd.N_afterv (v := (.slice (some ⟨go61, 0, none⟩) t375.length co72)) (v1 := (.slice (some ⟨go61, 0, none⟩) t375.length co72)) (ok := (fun _ => True)) (by (with_reducible repeat (first | apply Kd.N_alloc | apply Kd.N_drewN | apply Kd.N_drew)); exact HO374.out) hg (.inl rfl)); have n1_ := Aside0.mk (hp_); have n2_ := Aside0.mk ((by rw [hw]; exact below_set (HB.out) GB61.out : Below w.heap.size w w74)); clear HO374; clear HO377; clear HB; have HO374 := n0_; have HO377 := n1_; have HB := n2_; clear n0_ n1_ n2_; clear hg hw hp_) | ((with_reducible refine gate_callee (f := 21) rfl ?_); refine goesL_ (some 90) rfl rfl Try.func21 (by kernel_rfl) rfl #[.slice (some ⟨go61, 0, none⟩) y379.length co72] rfl (by (try simp only [List.map_toArray, List.map_cons, List.map_nil]); first | done | (rw [show y379.length = t375.length from (Kd.R_reads' HO377.out).1.symm] <;> rfl) | rfl | (simp only [List.length_drop, List.length_take]; rfl)) ?_; (with_reducible refine (disk_Unwrap.calls kj47 _ _ y379 t380 t383 _ ?side1 ?side2 A62.out).mono ?_); (case side1 => repeat (first | exact (Kd.R_reads' HO377.out).2.2 | (with_reducible refine Kd.C_alloc ?_ _) | (with_reducible refine Kd.C_drewN ?_ _) | (with_reducible refine Kd.C_drew ?_))); (case side2 => rw [show y379.length = t375.length from (Kd.R_reads' HO377.out).1.symm]; exact (Kd.R_reads' HO377.out).2.1); rintro e w75 ⟨v381, rfl, ho0, hb⟩; refine ⟨_, rfl, ?_⟩; have n0_ := Aside0.mk (Kd.N_elder' (by (with_reducible repeat (first | apply Kd.N_alloc | apply Kd.N_drewN | apply Kd.N_drew)); exact HO374.out) (Kd.N_base ho0) hb); have n1_ := Aside0.mk (Kd.R_below (by (with_reducible repeat (first | apply Kd.R_alloc | apply Kd.R_drewN | apply Kd.R_drew)); exact HO377.out) hb); have n2_ := Aside0.mk (Kd.N_lower (Kd.N_mono (ok' := fun k_ => some k_ ≠ (.slice Ao70 y372.length co70 : Value).ownBlock ∧ some k_ ≠ (.slice (some ⟨go61, 0, none⟩) t375.length co72 : Value).ownBlock) ho0 (fun k_ hk_ => ⟨(Kd.fresh' (Kd.N_lt (by (with_reducible repeat (first | apply Kd.N_alloc | apply Kd.N_drewN | apply Kd.N_drew)); exact HO374.out)) k_ hk_), (Kd.fresh' (Kd.R_lt (by (with_reducible repeat (first | apply Kd.R_alloc | apply Kd.R_drewN | apply Kd.R_drew)); exact HO377.out)) k_ hk_)⟩)) (below_size (by repeat (first | (with_reducible first | exact HB.out | apply below_alloc | apply pw_below_drewN | apply below_drew1) | exact HB.out)))); have n3_ := Aside0.mk (below_step (by repeat (first | (with_reducible first | exact HB.out | apply below_alloc | apply pw_below_drewN | apply below_drew1) | exact HB.out)) hb); clear HO374; clear HO377; clear HB; have HO374 := n0_; have HO377 := n1_; have HO382 := n2_; have HB := n3_; clear n0_ n1_ n2_ n3_; (try clear hb); (try clear hb2); (try clear hk); (try clear hi); (try clear ho0)) | ((with_reducible refine gate_callee (f := 22) rfl ?_); refine goesL_ (some 95) rfl rfl Try.func22 (by kernel_rfl) rfl #[.slice (some ⟨go61, 0, none⟩) y379.length co72] rfl (by (try simp only [List.map_toArray, List.map_cons, List.map_nil]); first | done | (rw [show y379.length = t375.length from (Kd.R_reads' HO377.out).1.symm] <;> rfl) | rfl | (simp only [List.length_drop, List.length_take]; rfl)) ?_; (with_reducible refine (kotatsuref06_Unwrap.calls kj47 (fun k_ => some k_ = (.slice (some ⟨go61, 0, none⟩) t375.length co72 : Value).ownBlock) _ _ y379 t384 t387 _ ?side1 A63.out).mono ?_); (case side1 => rw [show y379.length = t375.length from (Kd.R_reads' HO377.out).1.symm]; exact Kd.R_V (Kd.R_tight rfl (Kd.R_apart' (Kd.R_apart' (HO377.out) (Kd.N_typed HO374.out) (by decide)) (Kd.N_typed HO382.out) (by decide)))); rintro e w76 ⟨v385, rfl, ho0, hb⟩; refine ⟨_, rfl, ?_⟩; have n0_ := Aside0.mk (Kd.N_elder' (by (with_reducible repeat (first | apply Kd.N_alloc | apply Kd.N_drewN | apply Kd.N_drew)); exact HO374.out) (Kd.N_base ho0) hb); have n1_ := Aside0.mk (Kd.R_below (by (with_reducible repeat (first | apply Kd.R_alloc | apply Kd.R_drewN | apply Kd.R_drew)); exact HO377.out) hb); have n2_ := Aside0.mk (Kd.N_elder' (by (with_reducible repeat (first | apply Kd.N_alloc | apply Kd.N_drewN | apply Kd.N_drew)); exact HO382.out) (Kd.N_base ho0) hb); have n3_ := Aside0.mk (Kd.N_lower (Kd.N_mono (ok' := fun k_ => some k_ ≠ (.slice Ao70 y372.length co70 : Value).ownBlock ∧ some k_ ≠ (v381 : Value).ownBlock) ho0 (fun k_ hk_ => ⟨Or.elim hk_ (fun hs_ => ((Kd.R_apart' (Kd.R_apart' (HO377.out) (Kd.N_typed HO374.out) (by decide)) (Kd.N_typed HO382.out) (by decide)).1 k_ hs_.symm).1.2) (fun hn_ => (Kd.fresh' (Kd.N_lt (by (with_reducible repeat (first | apply Kd.N_alloc | apply Kd.N_drewN | apply Kd.N_drew)); exact HO374.out)) k_ hn_)), Or.elim hk_ (fun hs_ => ((Kd.R_apart' (Kd.R_apart' (HO377.out) (Kd.N_typed HO374.out) (by decide)) (Kd.N_typed HO382.out) (by decide)).1 k_ hs_.symm).2) (fun hn_ => (Kd.fresh' (Kd.N_lt (by (with_reducible repeat (first | apply Kd.N_alloc | apply Kd.N_drewN | apply Kd.N_drew)); exact HO382.out)) k_ hn_))⟩)) (below_size (by repeat (first | (with_reducible first | exact HB.out | apply below_alloc | apply pw_below_drewN | apply below_drew1) | exact HB.out)))); have n4_ := Aside0.mk (below_step (by repeat (first | (with_reducible first | exact HB.out | apply below_alloc | apply pw_below_drewN | apply below_drew1) | exact HB.out)) hb); clear HO374; clear HO377; clear HO382; clear HB; have HO374 := n0_; have HO377 := n1_; have HO382 := n2_; have HO386 := n3_; have HB := n4_; clear n0_ n1_ n2_ n3_ n4_; (try clear hb); (try clear hb2); (try clear hk); (try clear hi); (try clear ho0); obtain ⟨Ao77, co77, eo77⟩ := Kd.N_slice HO382.out; subst eo77) | (go_at_call 19; (with_reducible refine (kotatsulaw06_own.calls kj47 (fun k_ => ((some k_ ≠ (.slice Ao70 y372.length co70 : Value).ownBlock ∧ some k_ ≠ (.slice (some ⟨go61, 0, none⟩) t375.length co72 : Value).ownBlock) ∧ some k_ ≠ (v385 : Value).ownBlock)) _ _ t380 t388 _ ?side1 A65.out).mono ?_); (case side1 => exact Kd.N_V (HO382.out)); rintro e w78 ⟨v389, rfl, ho0, hb⟩; have n0_ := Aside0.mk (Kd.N_elder' (by (with_reducible repeat (first | apply Kd.N_alloc | apply Kd.N_drewN | apply Kd.N_drew)); exact HO374.out) (Kd.N_base ho0) hb); have n1_ := Aside0.mk (Kd.R_below (by (with_reducible repeat (first | apply Kd.R_alloc | apply Kd.R_drewN | apply Kd.R_drew)); exact HO377.out) hb); have n2_ := Aside0.mk (Kd.N_elder' (by (with_reducible repeat (first | apply Kd.N_alloc | apply Kd.N_drewN | apply Kd.N_drew)); exact HO382.out) (Kd.N_base ho0) hb); have n3_ := Aside0.mk (Kd.N_elder' (by (with_reducible repeat (first | apply Kd.N_alloc | apply Kd.N_drewN | apply Kd.N_drew)); exact HO386.out) (Kd.N_base ho0) hb); have n4_ := Aside0.mk (Kd.N_lower (Kd.N_mono (ok' := fun k_ => some k_ ≠ (.slice Ao70 y372.length co70 : Value).ownBlock ∧ some k_ ≠ (.slice (some ⟨go61, 0, none⟩) t375.length co72 : Value).ownBlock ∧ some k_ ≠ (v385 : Value).ownBlock) ho0 (fun k_ hk_ => ⟨Or.elim hk_ (fun hs_ => hs_.1.1) (fun hn_ => (Kd.fresh' (Kd.N_lt (by (with_reducible repeat (first | apply Kd.N_alloc | apply Kd.N_drewN | apply Kd.N_drew)); exact HO374.out)) k_ hn_)), Or.elim hk_ (fun hs_ => hs_.1.2) (fun hn_ => (Kd.fresh' (Kd.R_lt (by (with_reducible repeat (first | apply Kd.R_alloc | apply Kd.R_drewN | apply Kd.R_drew)); exact HO377.out)) k_ hn_)), Or.elim hk_ (fun hs_ => hs_.2) (fun hn_ => (Kd.fresh' (Kd.N_lt (by (with_reducible repeat (first | apply Kd.N_alloc | apply Kd.N_drewN | apply Kd.N_drew)); exact HO386.out)) k_ hn_))⟩)) (below_size (by repeat (first | (with_reducible first | exact HB.out | apply below_alloc | apply pw_below_drewN | apply below_drew1) | exact HB.out)))); have n5_ := Aside0.mk (below_step (by repeat (first | (with_reducible first | exact HB.out | apply below_alloc | apply pw_below_drewN | apply below_drew1) | exact HB.out)) hb); clear HO374; clear HO377; clear HO382; clear HO386; clear HB; have HO374 := n0_; have HO377 := n1_; have HO382 := n2_; have HO386 := n3_; have HO390 := n4_; have HB := n5_; clear n0_ n1_ n2_ n3_ n4_ n5_; (try clear hb); (try clear hb2); (try clear hk); (try clear hi); (try clear ho0); obtain ⟨Ao79, co79, eo79⟩ := Kd.N_slice HO390.out; subst eo79; obtain ⟨Ao80, co80, eo80⟩ := Kd.N_slice HO386.out; subst eo80) | (go_at_call 23; (with_reducible refine (kotatsuref05_Same.calls kj47 _ _ t388 _ _ t384 t391 _ ?side1 ?side2 ?side3 ?side4 A66.out).mono ?_); (case side1 => repeat (first | exact (Kd.N_reads' HO390.out).2.2 | (with_reducible refine Kd.C_alloc ?_ _) | (with_reducible refine Kd.C_drewN ?_ _) | (with_reducible refine Kd.C_drew ?_))); (case side2 => exact (Kd.N_reads' HO390.out).2.1); (case side3 => repeat (first | exact (Kd.N_reads' HO386.out).2.2 | (with_reducible refine Kd.C_alloc ?_ _) | (with_reducible refine Kd.C_drewN ?_ _) | (with_reducible refine Kd.C_drew ?_))); (case side4 => exact (Kd.N_reads' HO386.out).2.1); rintro e w' ⟨rfl, ⟨nd, rfl⟩⟩))
            go_ret
            exact ⟨by first | rfl | (simp [errW_none, errW_some] <;> rfl) | (simp only [← hji58]; first | rfl | (simp [errW_none, errW_some] <;> rfl)) | (simp [*, errW_none, errW_some] <;> rfl), by repeat (first | (with_reducible first | exact HB.out | apply below_alloc | apply pw_below_drewN | apply below_drew1) | exact HB.out)⟩
           ·rw [if_neg c64] at H
            have c64b0 : (t383 == t387) = false := beq_eq_false_iff_ne.mpr c64
            have c64b1 : (t383 != t387) = true := bne_iff_ne.mpr c64
            obtain rfl := Option.some.inj H
            obtain ⟨Ao81, co81, eo81⟩ := Kd.R_slice HO_10.out
            subst eo81
            go_wp2_with (first | ((with_reducible refine gate_dst (N := 75) rfl ?_); (try (refine gate_guard (by rfl) ?_; dsimp only)); refine Kd.N_lit (Kd.slice 5 (Kd.int .u8)) _ 22 ?hg (N' := 75) ?hd (xs := ([t345] : List (List Int))) (inner := [.slice Ao81 t345.length co81]) (ok := (fun _ => True)) (okp := (fun _ => True)) ?hr ?hp (fun _ hk => hk) ((show ∀ k_, wc.heap.size ≤ k_ → (fun _ => True) k_ from fun k_ hk => trivial) _ (Nat.le_refl _)) (Below.refl _ _) (Nat.le_refl _) (by simp) ?_; (case hd => rfl); (case hg => rfl); (case hr => first | (go_simp; done) | (go_simp; rfl)); (case hp => exact (Reps.one (show Kd.FK (Kd.slice 5 (Kd.int .u8)) _ _ t345 [.slice Ao81 t345.length co81] from (Kd.FK_slice_mk (Kd.R_reads' (Kd.R_mono (ok' := (fun _ => True)) (HO_10.out) (fun k_ hk => trivial))).2.1 (Kd.R_F (Kd.R_mono (ok' := (fun _ => True)) (HO_10.out) (fun k_ hk => trivial))))) (Reps.none _ _))); intro v373 w82 ho83 hb hg_ hnew_; clear hg_ hnew_; (first | rw [← Ny372.out] at ho83 | (simp only [Int.reduceToNat] at ho83; rw [← Ny372.out] at ho83)); have n0_ := Aside0.mk (Kd.N_lower ho83 (below_size (by repeat (first | (with_reducible first | exact HB.out | apply below_alloc | apply pw_below_drewN | apply below_drew1) | exact HB.out)))); have n1_ := Aside0.mk (below_step (by repeat (first | (with_reducible first | exact HB.out | apply below_alloc | apply pw_below_drewN | apply below_drew1) | exact HB.out)) hb); clear HB; clear HO_10; have HO374 := n0_; have HB := n1_; clear n0_ n1_; clear hb ho83; obtain ⟨Ao84, co84, eo84⟩ := Kd.N_slice HO374.out; subst eo84) | ((with_reducible refine gate_callee (f := 11) rfl ?_); refine goesL_ (some 76) rfl rfl Try.func11 (by kernel_rfl) rfl #[.slice Ao84 y372.length co84] rfl (by (try simp only [List.map_toArray, List.map_cons, List.map_nil]); first | done | rfl | (simp only [List.length_drop, List.length_take]; rfl)) ?_; (with_reducible refine (kotatsuref01_Join.calls kj47 _ _ y372 t375 _ ?side1 ?side2 A56.out).mono ?_); (case side1 => repeat (first | exact (Kd.N_reads' HO374.out).2.2 | (with_reducible refine Kd.C_alloc ?_ _) | (with_reducible refine Kd.C_drewN ?_ _) | (with_reducible refine Kd.C_drew ?_))); (case side2 => exact (Kd.N_reads' HO374.out).2.1); rintro e w85 ⟨v376, rfl, ho0, hb⟩; refine ⟨_, rfl, ?_⟩; have n0_ := Aside0.mk (Kd.N_elder' (by (with_reducible repeat (first | apply Kd.N_alloc | apply Kd.N_drewN | apply Kd.N_drew)); exact HO374.out) (Kd.R_base ho0) hb); have n1_ := Aside0.mk (Kd.R_lower ho0 (below_size (by repeat (first | (with_reducible first | exact HB.out | apply below_alloc | apply pw_below_drewN | apply below_drew1) | exact HB.out)))); have n2_ := Aside0.mk (below_step (by repeat (first | (with_reducible first | exact HB.out | apply below_alloc | apply pw_below_drewN | apply below_drew1) | exact HB.out)) hb); clear HO374; clear HB; have HO374 := n0_; have HO377 := n1_; have HB := n2_; clear n0_ n1_ n2_; (try clear hb); (try clear hb2); (try clear hk); (try clear hi); (try clear ho0); obtain ⟨Ao86, co86, eo86⟩ := Kd.R_slice HO377.out; subst eo86; have p378 : 0 ≤ ((ji58) : Int) := of_decide_eq_true (by first | (with_reducible assumption) | assumption); have q378 : (ji58) < (t375.length : Int) := of_decide_eq_true (by first | (with_reducible assumption) | assumption); obtain ⟨ad378, e378, hx378_0⟩ := Kd.at_int (Kd.R_reads' HO377.out).2.2 (ji58) p378 q378; cases e378; replace p378 := eq_true p378; replace q378 := eq_true q378; have p61 : 0 ≤ ((ji58) : Int) := of_decide_eq_true (by first | (with_reducible assumption) | assumption); have q61 : ((ji58) : Int) < ((t375.length : Int) : Int) := of_decide_eq_true (by first | (with_reducible assumption) | assumption); obtain ⟨go61, co61, eo61, gb61, gl61, cl61, HG61⟩ := Kd.R_form HO377.out (by omega); (first | cases eo61 | (injection eo61 with ea_ en_ ec_; (first | subst ea_ | (injection ea_ with ea_; subst ea_)); subst ec_; clear en_)); have GB61 := Aside0.mk gb61; have GG61 := Aside0.mk HG61; clear gb61 gl61 HG61; (first | simp only [add_plain] at hx378_0 | skip); obtain ⟨hx61_0, hf61_0⟩ := Kd.R_celln 0 HO377.out ((ji58) : Int) p61 q61; replace p61 := eq_true p61; replace q61 := eq_true q61; obtain ⟨hy87_, hz87_⟩ := Kd.R_celln 0 HO377.out ((ji58) : Int) (of_decide_eq_true (by first | (with_reducible assumption) | assumption)) (of_decide_eq_true (by first | (with_reducible assumption) | assumption)); have HP87 := Kd.R_putg HO377.out ((ji58) : Int) (Go.bits .xor .u8 (rd t375 (ji58)) a3)) | ((with_reducible refine gate_store (t := 5) (p := 87) rfl ?_); refine store_event (t := 5) (p := 87) (v := ?vo_w88) (w1 := (w85.setCell ⟨go61, ((ji58) : Int).toNat, none⟩ (.int .u8 (Go.bits .xor .u8 (rd t375 (ji58)) a3)))) ?hg ?ho ?hn ?hr ?_; (case ho => rfl); (case hg => rfl); (case hn => rfl); (case hr => first | (go_simp; done) | (go_simp; rfl)); intro w88 hw; have hg : w85.grownBy w88 (some go61) := (by rw [hw]; exact HP87.2); have hp_ : Kd.R (Kd.int .u8) 5 w88 w.heap.size (fun _ => True) (.slice (some ⟨go61, 0, none⟩) t375.length co86) y379 := (by rw [hw, Ny379.out]; exact HP87.1); clear HP87; have n0_ := Aside0.mk (Kd.N_afterv (v := (.slice (some ⟨go61, 0, none⟩) t375.length co86)) (v1 := (.slice (some ⟨go61, 0, none⟩) t375.length co86)) (ok := (fun _ => True)) (by (with_reducible repeat (first | apply Kd.N_alloc | apply Kd.N_drewN | apply Kd.N_drew)); exact HO374.out) hg (.inl rfl)); have n1_ := Aside0.mk (hp_); have n2_ := Aside0.mk ((by rw [hw]; exact below_set (HB.out) GB61.out : Below w.heap.size w w88)); clear HO374; clear HO377; clear HB; have HO374 := n0_; have HO377 := n1_; have HB := n2_; clear n0_ n1_ n2_; clear hg hw hp_) | ((with_reducible refine gate_callee (f := 21) rfl ?_); refine goesL_ (some 90) rfl rfl Try.func21 (by kernel_rfl) rfl #[.slice (some ⟨go61, 0, none⟩) y379.length co86] rfl (by (try simp only [List.map_toArray, List.map_cons, List.map_nil]); first | done | (rw [show y379.length = t375.length from (Kd.R_reads' HO377.out).1.symm] <;> rfl) | rfl | (simp only [List.length_drop, List.length_take]; rfl)) ?_; (with_reducible refine (disk_Unwrap.calls kj47 _ _ y379 t380 t383 _ ?side1 ?side2 A62.out).mono ?_); (case side1 => repeat (first | exact (Kd.R_reads' HO377.out).2.2 | (with_reducible refine Kd.C_alloc ?_ _) | (with_reducible refine Kd.C_drewN ?_ _) | (with_reducible refine Kd.C_drew ?_))); (case side2 => rw [show y379.length = t375.length from (Kd.R_reads' HO377.out).1.symm]; exact (Kd.R_reads' HO377.out).2.1); rintro e w89 ⟨v381, rfl, ho0, hb⟩; refine ⟨_, rfl, ?_⟩; have n0_ := Aside0.mk (Kd.N_elder' (by (with_reducible repeat (first | apply Kd.N_alloc | apply Kd.N_drewN | apply Kd.N_drew)); exact HO374.out) (Kd.N_base ho0) hb); have n1_ := Aside0.mk (Kd.R_below (by (with_reducible repeat (first | apply Kd.R_alloc | apply Kd.R_drewN | apply Kd.R_drew)); exact HO377.out) hb); have n2_ := Aside0.mk (Kd.N_lower (Kd.N_mono (ok' := fun k_ => some k_ ≠ (.slice Ao84 y372.length co84 : Value).ownBlock ∧ some k_ ≠ (.slice (some ⟨go61, 0, none⟩) t375.length co86 : Value).ownBlock) ho0 (fun k_ hk_ => ⟨(Kd.fresh' (Kd.N_lt (by (with_reducible repeat (first | apply Kd.N_alloc | apply Kd.N_drewN | apply Kd.N_drew)); exact HO374.out)) k_ hk_), (Kd.fresh' (Kd.R_lt (by (with_reducible repeat (first | apply Kd.R_alloc | apply Kd.R_drewN | apply Kd.R_drew)); exact HO377.out)) k_ hk_)⟩)) (below_size (by repeat (first | (with_reducible first | exact HB.out | apply below_alloc | apply pw_below_drewN | apply below_drew1) | exact HB.out)))); have n3_ := Aside0.mk (below_step (by repeat (first | (with_reducible first | exact HB.out | apply below_alloc | apply pw_below_drewN | apply below_drew1) | exact HB.out)) hb); clear HO374; clear HO377; clear HB; have HO374 := n0_; have HO377 := n1_; have HO382 := n2_; have HB := n3_; clear n0_ n1_ n2_ n3_; (try clear hb); (try clear hb2); (try clear hk); (try clear hi); (try clear ho0)) | ((with_reducible refine gate_callee (f := 22) rfl ?_); refine goesL_ (some 95) rfl rfl Try.func22 (by kernel_rfl) rfl #[.slice (some ⟨go61, 0, none⟩) y379.length co86] rfl (by (try simp only [List.map_toArray, List.map_cons, List.map_nil]); first | done | (rw [show y379.length = t375.length from (Kd.R_reads' HO377.out).1.symm] <;> rfl) | rfl | (simp only [List.length_drop, List.length_take]; rfl)) ?_; (with_reducible refine (kotatsuref06_Unwrap.calls kj47 (fun k_ => some k_ = (.slice (some ⟨go61, 0, none⟩) t375.length co86 : Value).ownBlock) _ _ y379 t384 t387 _ ?side1 A63.out).mono ?_); (case side1 => rw [show y379.length = t375.length from (Kd.R_reads' HO377.out).1.symm]; exact Kd.R_V (Kd.R_tight rfl (Kd.R_apart' (Kd.R_apart' (HO377.out) (Kd.N_typed HO374.out) (by decide)) (Kd.N_typed HO382.out) (by decide)))); rintro e w90 ⟨v385, rfl, ho0, hb⟩; refine ⟨_, rfl, ?_⟩; have n0_ := Aside0.mk (Kd.N_elder' (by (with_reducible repeat (first | apply Kd.N_alloc | apply Kd.N_drewN | apply Kd.N_drew)); exact HO374.out) (Kd.N_base ho0) hb); have n1_ := Aside0.mk (Kd.R_below (by (with_reducible repeat (first | apply Kd.R_alloc | apply Kd.R_drewN | apply Kd.R_drew)); exact HO377.out) hb); have n2_ := Aside0.mk (Kd.N_elder' (by (with_reducible repeat (first | apply Kd.N_alloc | apply Kd.N_drewN | apply Kd.N_drew)); exact HO382.out) (Kd.N_base ho0) hb); have n3_ := Aside0.mk (Kd.N_lower (Kd.N_mono (ok' := fun k_ => some k_ ≠ (.slice Ao84 y372.length co84 : Value).ownBlock ∧ some k_ ≠ (v381 : Value).ownBlock) ho0 (fun k_ hk_ => ⟨Or.elim hk_ (fun hs_ => ((Kd.R_apart' (Kd.R_apart' (HO377.out) (Kd.N_typed HO374.out) (by decide)) (Kd.N_typed HO382.out) (by decide)).1 k_ hs_.symm).1.2) (fun hn_ => (Kd.fresh' (Kd.N_lt (by (with_reducible repeat (first | apply Kd.N_alloc | apply Kd.N_drewN | apply Kd.N_drew)); exact HO374.out)) k_ hn_)), Or.elim hk_ (fun hs_ => ((Kd.R_apart' (Kd.R_apart' (HO377.out) (Kd.N_typed HO374.out) (by decide)) (Kd.N_typed HO382.out) (by decide)).1 k_ hs_.symm).2) (fun hn_ => (Kd.fresh' (Kd.N_lt (by (with_reducible repeat (first | apply Kd.N_alloc | apply Kd.N_drewN | apply Kd.N_drew)); exact HO382.out)) k_ hn_))⟩)) (below_size (by repeat (first | (with_reducible first | exact HB.out | apply below_alloc | apply pw_below_drewN | apply below_drew1) | exact HB.out)))); have n4_ := Aside0.mk (below_step (by repeat (first | (with_reducible first | exact HB.out | apply below_alloc | apply pw_below_drewN | apply below_drew1) | exact HB.out)) hb); clear HO374; clear HO377; clear HO382; clear HB; have HO374 := n0_; have HO377 := n1_; have HO382 := n2_; have HO386 := n3_; have HB := n4_; clear n0_ n1_ n2_ n3_ n4_; (try clear hb); (try clear hb2); (try clear hk); (try clear hi); (try clear ho0)))
            go_ret
            exact ⟨by first | rfl | (simp [errW_none, errW_some] <;> rfl) | (simp only [← hji58]; first | rfl | (simp [errW_none, errW_some] <;> rfl)) | (simp [*, errW_none, errW_some] <;> rfl), by repeat (first | (with_reducible first | exact HB.out | apply below_alloc | apply pw_below_drewN | apply below_drew1) | exact HB.out)⟩
          ·rw [if_neg c60] at H
           exact absurd H (by simp)
         ·rw [if_neg c59] at H
          exact absurd H (by simp)
 ·replace c6 := Bool.eq_false_iff.mpr c6
  subst c6
  have H1 : (some false) = some r := by rw [if_neg (show ¬ (false = true) by decide)] at H; exact H
  clear H
  have H := H1
  clear H1
  obtain rfl := Option.some.inj H
  go_enter Try.func6, Try.ntmps6
  go_wp2_with (first | ((with_reducible refine gate_callee (f := 9) rfl ?_); refine goesL_ (some 20) rfl rfl Try.func9 (by kernel_rfl) rfl #[] rfl (by (try simp only [List.map_toArray, List.map_cons, List.map_nil]); first | done | rfl | (simp only [List.length_drop, List.length_take]; rfl)) ?_; (with_reducible refine (kotatsulaw06_awake.calls k  false _ A5.out).mono ?_); rintro e w91 ⟨rfl, hb⟩; refine ⟨_, rfl, ?_⟩; have n0_ := Aside0.mk (below_step (by repeat (first | (with_reducible first | exact HB.out | apply below_alloc | apply pw_below_drewN | apply below_drew1) | exact HB.out)) hb); clear HB; have HB := n0_; clear n0_; (try clear hb); (try clear hb2); (try clear hk); (try clear hi)))
  go_ret
  exact ⟨by first | rfl | (simp [errW_none, errW_some] <;> rfl) | (simp [*, errW_none, errW_some] <;> rfl), by repeat (first | (with_reducible first | exact HB.out | apply below_alloc | apply pw_below_drewN | apply below_drew1) | exact HB.out)⟩

end Go.Proofs.Ythnfmoaiejaheaa.PDiskWraps
