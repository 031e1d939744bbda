-- made by a program of this repo (wip/patch_print.py); not trusted: Lean checks it
import Derived.Test.YthnfmoaiejaheaaZPDiskWrapsx0
import Derived.Test.YthnfmoaiejaheaaZPDiskWrapsx3
import Derived.Test.YthnfmoaiejaheaaZPDiskWrapsx4
import Derived.Test.YthnfmoaiejaheaaZPDiskWrapsx6
-- squeezed
namespace Go.Proofs.Ythnfmoaiejaheaa.PDiskWraps
open Go.RowKit Go.Proofs.YthnfmoaiejaheaaW.PrintWords Go.Proofs.YthnfmoaiejaheaaW.PrintLast Go.Proofs.YthnfmoaiejaheaaW.PrintMore
attribute [local go_sem] max2_int min2_int max_two min_two max_three min_three max_four min_four   -- for this text's walks alone
set_option linter.unusedVariables false
set_option linter.unusedSimpArgs false

/-! ### kotatsuref06_Unwrap: function 22 -/
mutual
def kotatsuref06_Unwrap.l0 : Nat → List Int → List (S69) → Int → Option ((List (S69)) × Int)
 | 0, _, _, _ => none
 | k + 1, x0, x4, x5 => if x5 < (x0.length : Int) then (if (x4.length : Int) < 512 then (if 0 ≤ x5 then ((kotatsuref05_Kind.f (x4.length : Int)).bind fun t250 => (kotatsuref06_Unwrap.j1 k x0 x4 x5 ((rd x0 x5) == t250))) else (none)) else (kotatsuref06_Unwrap.j1 k x0 x4 x5 false)) else (kotatsuref06_Unwrap.j1 k x0 x4 x5 false)
def kotatsuref06_Unwrap.j1 : Nat → List Int → List (S69) → Int → Bool → Option ((List (S69)) × Int)
 | 0, _, _, _, _ => none
 | k + 1, x0, x4, x5, x26 => if x26 = true then (if (x4.length : Int) > 0 then (if 0 ≤ (wrap64 ((x4.length : Int) - 1)) then (if (wrap64 ((x4.length : Int) - 1)) < (x4.length : Int) then ((kotatsuref05_Bytes.f (x4.length : Int) ((rd_T69 x4 (wrap64 ((x4.length : Int) - 1))).f1)).bind fun t252 => (if (wrap64 ((wrap64 (x5 + t252)) + 3)) > (x0.length : Int) then (some (([] : List (S69)), 2)) else (if 0 ≤ (wrap64 ((wrap64 (x5 + t252)) + 1)) then (if (wrap64 ((wrap64 (x5 + t252)) + 1)) ≤ (wrap64 ((wrap64 (x5 + t252)) + 3)) then (if (wrap64 ((wrap64 (x5 + t252)) + 3)) ≤ (x0.length : Int) then ((kotatsuref02_Take.f k ((x0.take ((wrap64 ((wrap64 (x5 + t252)) + 3)) : Int).toNat).drop ((wrap64 ((wrap64 (x5 + t252)) + 1)) : Int).toNat)).bind fun t258 => (if 0 ≤ x5 then (if x5 ≤ (wrap64 ((wrap64 (x5 + t252)) + 1)) then (if (wrap64 ((wrap64 (x5 + t252)) + 1)) ≤ (x0.length : Int) then ((kotatsuref02_Short.f k ((x0.take ((wrap64 ((wrap64 (x5 + t252)) + 1)) : Int).toNat).drop (x5 : Int).toNat)).bind fun t264 => (if t258 = (IntKind.u64.wrap (t264)) then (if x5 < (x0.length : Int) then (if 0 ≤ (wrap64 (x5 + 1)) then (if (wrap64 (x5 + 1)) ≤ (wrap64 ((wrap64 (x5 + t252)) + 1)) then ((kotatsuref01_Join.f k (([((x0.take ((wrap64 ((wrap64 (x5 + t252)) + 1)) : Int).toNat).drop ((wrap64 (x5 + 1)) : Int).toNat)] : List (List Int)))).bind fun t274 => (if x4.length < 4398046511104 then (kotatsuref06_Unwrap.l0 k x0 (x4 ++ [(⟨rd x0 x5, t274⟩ : S69)]) (wrap64 (x5 + (wrap64 (t252 + 3))))) else (none))) else (none)) else (none)) else (none)) else (some (([] : List (S69)), 3)))) else (none)) else (none)) else (none))) else (none)) else (none)) else (none)))) else (none)) else (none)) else ((kotatsuref05_Bytes.f (x4.length : Int) ([] : List Int)).bind fun t280 => (if (wrap64 ((wrap64 (x5 + t280)) + 3)) > (x0.length : Int) then (some (([] : List (S69)), 2)) else (if 0 ≤ (wrap64 ((wrap64 (x5 + t280)) + 1)) then (if (wrap64 ((wrap64 (x5 + t280)) + 1)) ≤ (wrap64 ((wrap64 (x5 + t280)) + 3)) then (if (wrap64 ((wrap64 (x5 + t280)) + 3)) ≤ (x0.length : Int) then ((kotatsuref02_Take.f k ((x0.take ((wrap64 ((wrap64 (x5 + t280)) + 3)) : Int).toNat).drop ((wrap64 ((wrap64 (x5 + t280)) + 1)) : Int).toNat)).bind fun t286 => (if 0 ≤ x5 then (if x5 ≤ (wrap64 ((wrap64 (x5 + t280)) + 1)) then (if (wrap64 ((wrap64 (x5 + t280)) + 1)) ≤ (x0.length : Int) then ((kotatsuref02_Short.f k ((x0.take ((wrap64 ((wrap64 (x5 + t280)) + 1)) : Int).toNat).drop (x5 : Int).toNat)).bind fun t292 => (if t286 = (IntKind.u64.wrap (t292)) then (if x5 < (x0.length : Int) then (if 0 ≤ (wrap64 (x5 + 1)) then (if (wrap64 (x5 + 1)) ≤ (wrap64 ((wrap64 (x5 + t280)) + 1)) then ((kotatsuref01_Join.f k (([((x0.take ((wrap64 ((wrap64 (x5 + t280)) + 1)) : Int).toNat).drop ((wrap64 (x5 + 1)) : Int).toNat)] : List (List Int)))).bind fun t302 => (if x4.length < 4398046511104 then (kotatsuref06_Unwrap.l0 k x0 (x4 ++ [(⟨rd x0 x5, t302⟩ : S69)]) (wrap64 (x5 + (wrap64 (t280 + 3))))) else (none))) else (none)) else (none)) else (none)) else (some (([] : List (S69)), 3)))) else (none)) else (none)) else (none))) else (none)) else (none)) else (none))))) else (some (x4, 0))
end
def kotatsuref06_Unwrap.f (k : Nat) (l0 : List Int) : Option ((List (S69)) × Int) := kotatsuref06_Unwrap.l0 k l0 ([] : List (S69)) 0
def kotatsuref06_Unwrap.T3 : Bool × List (List Nat × List Nat) := (true, [([], []), ([], []), ([1], [1]), ([0, 2], [0, 2]), ([3], [3]), ([4], [4]), ([5, 4], [4, 5]), ([6, 4], [4, 6]), ([4, 7], [4, 7]), ([8, 4], [8]), ([9], [9]), ([9], [9]), ([10, 11, 9], [9, 10, 11]), ([12, 9], [9, 12]), ([9], [9]), ([14, 9], [9, 14]), ([15, 9, 9], [9, 15]), ([13, 16, 9], [9, 13, 16]), ([9, 17], [9, 17])])
def kotatsuref06_Unwrap.B3 : List Nat := [0, 0, 2, 7, 15, 31, 63, 127, 255, 511, 1023, 1023, 4095, 8191, 1023, 17407, 50175, 131071, 262143]
theorem kotatsuref06_Unwrap.tab3 : rtab .any (opsOf Try.f22 3) = kotatsuref06_Unwrap.T3 := by kernel_rfl
theorem kotatsuref06_Unwrap.bits3 : waitsOk kotatsuref06_Unwrap.T3.2 kotatsuref06_Unwrap.B3 = true := by kernel_rfl
def kotatsuref06_Unwrap.T10 : Bool × List (List Nat × List Nat) := (true, [([], []), ([], []), ([], []), ([1, 2], [1, 2]), ([3], [3]), ([], []), ([], []), ([5, 6], [5, 6]), ([7], [7]), ([0, 4, 8], [0, 4, 8]), ([9], [9]), ([], []), ([], []), ([], []), ([], []), ([13, 14], [13, 14]), ([15], [15]), ([11, 12, 16], [11, 12, 16]), ([17, 10], [17]), ([18], [18]), ([10, 19], [10, 19])])
def kotatsuref06_Unwrap.B10 : List Nat := [0, 0, 0, 6, 14, 0, 0, 96, 224, 511, 1023, 0, 0, 0, 0, 24576, 57344, 129024, 262143, 524287, 1048575]
theorem kotatsuref06_Unwrap.tab10 : rtab .any (opsOf Try.f22 10) = kotatsuref06_Unwrap.T10 := by kernel_rfl
theorem kotatsuref06_Unwrap.bits10 : waitsOk kotatsuref06_Unwrap.T10.2 kotatsuref06_Unwrap.B10 = true := by kernel_rfl
def kotatsuref06_Unwrap.T12 : Bool × List (List Nat × List Nat) := (true, [([], []), ([], []), ([], []), ([1, 2], [1, 2]), ([3], [3]), ([], []), ([], []), ([6], [6]), ([], []), ([], []), ([8, 9], [8, 9]), ([10], [10]), ([5, 7, 11], [5, 7, 11]), ([12], [12]), ([13], [13]), ([4, 14], [4, 14]), ([15], [15]), ([0, 16, 14], [0, 16]), ([17, 17, 0, 1, 2, 3, 4, 5, 6, 7, 8, 9, 10, 11, 12, 13, 14, 15, 16, 17], [0, 17])])
def kotatsuref06_Unwrap.B12 : List Nat := [0, 0, 0, 6, 14, 0, 0, 64, 0, 0, 768, 1792, 4064, 8160, 16352, 32766, 65534, 131071, 262143]
theorem kotatsuref06_Unwrap.tab12 : rtab .any (opsOf Try.f22 12) = kotatsuref06_Unwrap.T12 := by kernel_rfl
theorem kotatsuref06_Unwrap.bits12 : waitsOk kotatsuref06_Unwrap.T12.2 kotatsuref06_Unwrap.B12 = true := by kernel_rfl
set_option maxHeartbeats 8000000 in
set_option maxRecDepth 100000 in
theorem kotatsuref06_Unwrap.calls (k : Nat) (P0_ : Nat → Prop) (A0 : Option Addr) (c0 : Nat) (l0 : List Int) (r1 : List (S69)) (r2 : Int) (w : World) (hs0 : Kd.V (Kd.int .u8) 5 w w.heap.size (fun k_ => P0_ k_) (.slice A0 l0.length c0) l0) (h : kotatsuref06_Unwrap.f k l0 = some (r1, r2)) :
  Calls Try.prog 22 #[.slice A0 l0.length c0] w fun e w' => ∃ v0_ : Value, e = .returned (.tuple #[v0_, .int .i64 r2]) ∧ Kd.N k69 69 w' w.heap.size (fun k_ => (P0_ k_ ∨ w.heap.size ≤ k_)) v0_ r1 ∧ Below w.heap.size w w' := by
 have hu69 := Try.underlying69
 have HO0 := Aside0.mk (show Kd.V (Kd.int .u8) 5 w w.heap.size (fun k_ => (P0_ k_ ∨ w.heap.size ≤ k_)) (.slice A0 l0.length c0) l0 from Kd.V_mono hs0 (fun k_ hk => .inl hk))
 have HB := Aside0.mk (Below.refl w.heap.size w)
 have H : (kotatsuref06_Unwrap.l0 k l0 ([] : List (S69)) 0) = some (r1, r2) := h
 clear h
 have H' := Aside0.mk H
 clear H
 go_enter Try.func22, Try.ntmps22
 go_wp2
 go_loopg [4, 5] k (fun kq v4 v5 w' => ∃ (x4_1 : List (S69)) (x5_1 : Int), v5 = .int .i64 x5_1 ∧ Aside0 (kotatsuref06_Unwrap.l0 kq l0 x4_1 x5_1 = some (r1, r2)) ∧ Aside0 (kq ≤ k) ∧ Aside0 (Kd.V (Kd.int .u8) 5 w' w.heap.size (fun k_ => (P0_ k_ ∨ w.heap.size ≤ k_) ∧ some k_ ≠ (v4 : Value).ownBlock) (.slice A0 l0.length c0) l0) ∧ Aside0 (Kd.N k69 69 w' w.heap.size (fun k_ => (P0_ k_ ∨ w.heap.size ≤ k_)) v4 x4_1) ∧ Aside0 (Below w.heap.size w w'))
 case atStart => exact ⟨(([] : List (S69))), (0), (by first | rfl | (simp; done) | (simp [*]; done)), H', ⟨Nat.le_refl _⟩, ⟨by (with_reducible repeat (first | apply Kd.V_alloc | apply Kd.V_drewN | apply Kd.V_drew)); exact Kd.V_mono HO0.out (fun _ hk => ⟨hk, (by simp [Value.ownBlock])⟩)⟩, ⟨by first | exact Kd.S_nil _ _ _ _ _ | exact Kd.N_nil _ _ _ _ _ | exact Kd.V_nil _ _ _ _ _ | exact Kd.Q_nil _ _ _ _ _ | exact Kd.R_nil _ _ _ _ _⟩, ⟨by repeat (first | (with_reducible first | exact HB.out | apply below_alloc | apply pw_below_drewN | apply below_drew1) | exact HB.out)⟩⟩
 case round =>
  clear H'
  obtain ⟨x4_1, x5_1, rfl, HA, HK1, HO_0, HO_4, HB⟩ := hrel
  cases gk with
  | zero => exact absurd HA.out (by simp [kotatsuref06_Unwrap.l0])
  | succ k1 =>
   have H := HA.out
   clear HA
   simp only [kotatsuref06_Unwrap.l0] at H
   have HC2 := Aside0.mk H
   clear H
   go_upto_region 3 with (fail)
   go_cut [26] (fun v26 wc => ∃ (kq : Nat) (x26_1 : Bool), v26 = .bool x26_1 ∧ Aside0 (kotatsuref06_Unwrap.j1 kq l0 x4_1 x5_1 x26_1 = some (r1, r2)) ∧ Aside0 (kq ≤ k1) ∧ Aside0 (Kd.V (Kd.int .u8) 5 wc w.heap.size (fun k_ => (P0_ k_ ∨ w.heap.size ≤ k_) ∧ some k_ ≠ (u4 : Value).ownBlock) (.slice A0 l0.length c0) l0) ∧ Aside0 (Kd.N k69 69 wc w.heap.size (fun k_ => (P0_ k_ ∨ w.heap.size ≤ k_)) u4 x4_1) ∧ Aside0 (Below w.heap.size w wc))
   case first =>
    have H := HC2.out
    clear HC2
    by_cases c3 : x5_1 < (l0.length : Int)
    ·rw [if_pos c3] at H
     have c3b0 : decide (x5_1 < (l0.length : Int)) = true := decide_eq_true c3
     clear c3
     (first | rw [c3b0] | (simp only [i64_w, i32_w]; rw [c3b0]) | skip)
     by_cases c4 : (x4_1.length : Int) < 512
     ·rw [if_pos c4] at H
      have c4b0 : decide ((x4_1.length : Int) < 512) = true := decide_eq_true c4
      have c4b1 : decide (x4_1.length < 512) = true := decide_eq_true (by omega)
      clear c4
      by_cases c5 : 0 ≤ x5_1
      ·rw [if_pos c5] at H
       have c5b0 : decide (0 ≤ x5_1) = true := decide_eq_true c5
       clear c5
       replace H := Option.bind_eq_some_iff.mp H
       obtain ⟨t250, A60, H⟩ := H
       replace H : (kotatsuref06_Unwrap.j1 k1 l0 x4_1 x5_1 ((rd l0 x5_1) == t250)) = some (r1, r2) := H
       have A6 := Aside0.mk A60
       clear A60
       have H' := Aside0.mk H
       clear H
       try go_wp2
       have n0_ := Aside0.mk (Kd.V_drew HO_0.out)
       have n1_ := Aside0.mk (Kd.N_drew HO_4.out)
       have n2_ := Aside0.mk (below_drew1 HB.out)
       clear HO_0
       clear HO_4
       clear HB
       have HO_0 := n0_
       have HO_4 := n1_
       have HB := n2_
       clear n0_ n1_ n2_
       obtain ⟨Ao8, co8, eo8⟩ := Kd.N_slice HO_4.out
       (first | subst eo8 | (injection eo8 with f1_ f2_ f3_; have f4_ := f1_.symm; have f5_ := f3_.symm; clear f1_ f2_ f3_; subst f4_; subst f5_))
       have p249 : 0 ≤ (x5_1 : Int) := of_decide_eq_true (by first | (with_reducible assumption) | assumption)
       have q249 : x5_1 < (l0.length : Int) := of_decide_eq_true (by first | (with_reducible assumption) | assumption)
       obtain ⟨ad249, e249, hx249_0⟩ := Kd.at_int (Kd.V_reads' HO_0.out).2.2 x5_1 p249 q249
       cases e249
       replace p249 := eq_true p249
       replace q249 := eq_true q249
       refine start_ (n := 19) (S := fun w' => w'.cell? (ad249.add (x5_1).toNat) = some (.int .u8 (rd l0 x5_1))) (ds := []) #[false, false, false, false, false, false, false, false, false, false, false, false, false, false, false, false, false, false, false] (by kernel_rfl) rfl rfl (hx249_0) (fun hHeld => ?_); refine with_tabW kotatsuref06_Unwrap.tab3 kotatsuref06_Unwrap.bits3 (fun HT_ HW_ => ?_)
       generalize wr.drew = w7 at HO_0 HO_4 HB hx249_0 hHeld ⊢
       refine pure_ (i := 0) (N := some 8) (v := ?_) (a' := ?_) #[true, false, false, false, false, false, false, false, false, false, false, false, false, false, false, false, false, false, false] rfl rfl (any_of HT_.out (by kernel_rfl)) (fun _ _ _ h => h) (Or.inl ⟨by rfl, ?_⟩) ?_ ?_
       rotate_left
       ·intro w'
        go_simp
        with_reducible rfl
       rotate_left
       ·simp only [Act.put, List.setIfInBounds_toArray, List.set_cons_zero, List.set_cons_succ, i64_w, i32_w]
        rfl
       refine pure_ (i := 1) (N := some 9) (v := ?_) (a' := ?_) #[true, true, false, false, false, false, false, false, false, false, false, false, false, false, false, false, false, false, false] rfl rfl (any_of HT_.out (by kernel_rfl)) (fun _ _ _ h => h) (Or.inl ⟨by rfl, ?_⟩) ?_ ?_
       rotate_left
       ·intro w'
        go_simp
        with_reducible rfl
       rotate_left
       ·simp only [Act.put, List.setIfInBounds_toArray, List.set_cons_zero, List.set_cons_succ, i64_w, i32_w]
        rfl
       refine pure_ (i := 2) (N := some 10) (v := ?_) (a' := ?_) #[true, true, true, false, false, false, false, false, false, false, false, false, false, false, false, false, false, false, false] rfl rfl (any_of HT_.out (by kernel_rfl)) (fun _ _ _ h => h) (Or.inl ⟨by rfl, ?_⟩) ?_ ?_
       rotate_left
       ·intro w'
        go_simp
        with_reducible rfl
       rotate_left
       ·simp only [Act.put, List.setIfInBounds_toArray, List.set_cons_zero, List.set_cons_succ, i64_w, i32_w]
        rfl
       refine pure_ (i := 3) (N := some 11) (v := ?_) (a' := ?_) #[true, true, true, true, false, false, false, false, false, false, false, false, false, false, false, false, false, false, false] rfl rfl (any_of HT_.out (by kernel_rfl)) (fun _ _ _ h => h) (Or.inl ⟨by rfl, ?_⟩) ?_ ?_
       rotate_left
       ·intro w'
        go_simp
        with_reducible rfl
       rotate_left
       ·simp only [Act.put, List.setIfInBounds_toArray, List.set_cons_zero, List.set_cons_succ, i64_w, i32_w]
        rfl
       refine pure_ (i := 4) (N := some 12) (v := ?_) (a' := ?_) #[true, true, true, true, true, false, false, false, false, false, false, false, false, false, false, false, false, false, false] rfl rfl (any_of HT_.out (by kernel_rfl)) (fun _ _ _ h => h) (Or.inl ⟨by rfl, ?_⟩) ?_ ?_
       rotate_left
       ·intro w'
        go_simp
        with_reducible rfl
       rotate_left
       ·simp only [Act.put, List.setIfInBounds_toArray, List.set_cons_zero, List.set_cons_succ, i64_w, i32_w]
        rfl
       refine pure_ (i := 5) (N := some 13) (v := ?_) (a' := ?_) #[true, true, true, true, true, true, false, false, false, false, false, false, false, false, false, false, false, false, false] rfl rfl (any_of HT_.out (by kernel_rfl)) (fun _ _ _ h => h) (Or.inl ⟨by rfl, ?_⟩) ?_ ?_
       rotate_left
       ·intro w'
        go_simp
        with_reducible rfl
       rotate_left
       ·simp only [Act.put, List.setIfInBounds_toArray, List.set_cons_zero, List.set_cons_succ, i64_w, i32_w]
        rfl
       refine pure_ (i := 6) (N := some 14) (v := ?_) (a' := ?_) #[true, true, true, true, true, true, true, false, false, false, false, false, false, false, false, false, false, false, false] rfl rfl (any_of HT_.out (by kernel_rfl)) (fun _ _ _ h => h) (Or.inl ⟨by rfl, ?_⟩) ?_ ?_
       rotate_left
       ·intro w'
        go_simp
        with_reducible rfl
       rotate_left
       ·simp only [Act.put, List.setIfInBounds_toArray, List.set_cons_zero, List.set_cons_succ, i64_w, i32_w]
        rfl
       refine pure_ (i := 7) (N := some 15) (v := ?_) (a' := ?_) #[true, true, true, true, true, true, true, true, false, false, false, false, false, false, false, false, false, false, false] rfl rfl (any_of HT_.out (by kernel_rfl)) (fun _ _ _ h => h) (Or.inl ⟨by rfl, ?_⟩) ?_ ?_
       rotate_left
       ·intro w'
        go_simp
        with_reducible rfl
       rotate_left
       ·simp only [Act.put, List.setIfInBounds_toArray, List.set_cons_zero, List.set_cons_succ, i64_w, i32_w]
        rfl
       refine pure_ (i := 8) (N := some 16) (v := ?_) (a' := ?_) #[true, true, true, true, true, true, true, true, true, false, false, false, false, false, false, false, false, false, false] rfl rfl (any_of HT_.out (by kernel_rfl)) (fun _ _ _ h => h) (Or.inl ⟨by rfl, ?_⟩) ?_ ?_
       rotate_left
       ·intro w'
        go_simp
        with_reducible rfl
       rotate_left
       ·simp only [Act.put, List.setIfInBounds_toArray, List.set_cons_zero, List.set_cons_succ, i64_w, i32_w]
        rfl
       refine pure_ (i := 9) (N := some 17) (v := ?_) (a' := ?_) #[true, true, true, true, true, true, true, true, true, true, false, false, false, false, false, false, false, false, false] rfl rfl (any_of HT_.out (by kernel_rfl)) (fun _ _ _ h => h) (Or.inl ⟨by rfl, ?_⟩) ?_ ?_
       rotate_left
       ·intro w'
        go_simp
        with_reducible rfl
       rotate_left
       ·simp only [Act.put, List.setIfInBounds_toArray, List.set_cons_zero, List.set_cons_succ, i64_w, i32_w]
        rfl
       refine pure_ (i := 10) (N := some 18) (v := ?_) (a' := ?_) #[true, true, true, true, true, true, true, true, true, true, true, false, false, false, false, false, false, false, false] rfl rfl (any_of HT_.out (by kernel_rfl)) (fun _ _ _ h => h) (Or.inl ⟨by rfl, ?_⟩) ?_ ?_
       rotate_left
       ·intro w'
        go_simp
        with_reducible rfl
       rotate_left
       ·simp only [Act.put, List.setIfInBounds_toArray, List.set_cons_zero, List.set_cons_succ, i64_w, i32_w]
        rfl
       refine pure_ (i := 11) (N := some 19) (v := ?_) (a' := ?_) #[true, true, true, true, true, true, true, true, true, true, true, true, false, false, false, false, false, false, false] rfl rfl (any_of HT_.out (by kernel_rfl)) (fun _ _ _ h => h) (Or.inl ⟨by rfl, ?_⟩) ?_ ?_
       rotate_left
       ·intro w'
        go_simp
        with_reducible rfl
       rotate_left
       ·simp only [Act.put, List.setIfInBounds_toArray, List.set_cons_zero, List.set_cons_succ, i64_w, i32_w]
        rfl
       refine pure_ (i := 12) (N := some 20) (v := ?_) (a' := ?_) #[true, true, true, true, true, true, true, true, true, true, true, true, true, false, false, false, false, false, false] rfl rfl (any_of HT_.out (by kernel_rfl)) (fun _ _ _ h => h) (Or.inl ⟨by rfl, ?_⟩) ?_ ?_
       rotate_left
       ·intro w'
        go_simp
        with_reducible rfl
       rotate_left
       ·simp only [Act.put, List.setIfInBounds_toArray, List.set_cons_zero, List.set_cons_succ, i64_w, i32_w]
        rfl
       refine pure_ (i := 14) (N := some 22) (v := ?_) (a' := ?_) #[true, true, true, true, true, true, true, true, true, true, true, true, true, false, true, false, false, false, false] rfl rfl (any_of HT_.out (by kernel_rfl)) (fun _ _ _ h => h) (Or.inl ⟨by rfl, ?_⟩) ?_ ?_
       rotate_left
       ·intro w'
        go_simp
        with_reducible rfl
       rotate_left
       ·simp only [Act.put, List.setIfInBounds_toArray, List.set_cons_zero, List.set_cons_succ, i64_w, i32_w]
        rfl
       refine pure_ (i := 15) (N := some 23) (v := ?_) (a' := ?_) #[true, true, true, true, true, true, true, true, true, true, true, true, true, false, true, true, false, false, false] rfl rfl (any_of HT_.out (by kernel_rfl)) (fun _ _ _ h => h) (Or.inl ⟨by rfl, ?_⟩) ?_ ?_
       rotate_left
       ·intro w'
        go_simp
        with_reducible rfl
       rotate_left
       ·simp only [Act.put, List.setIfInBounds_toArray, List.set_cons_zero, List.set_cons_succ, i64_w, i32_w]
        rfl
       refine take_ (i := 13) (N := some 21) (v := ?_) (a' := ?_) #[true, true, true, true, true, true, true, true, true, true, true, true, true, true, true, true, false, false, false] rfl rfl (take_ofW HT_.out HW_.out (by kernel_rfl)) (fun _ _ _ h => h) (Or.inl ⟨by rfl, ?_⟩) hHeld ?_ ?_
       rotate_left
       ·intro w' s0
        go_simp
        with_reducible rfl
       rotate_left
       ·simp only [Act.put, List.setIfInBounds_toArray, List.set_cons_zero, List.set_cons_succ, i64_w, i32_w]
        rfl
       refine one_ (i := 16) (N := some 24) #[true, true, true, true, true, true, true, true, true, true, true, true, true, true, true, true, true, false, false] rfl rfl (one_of HT_.out (by kernel_rfl)) (by decide) (fun K hK => ?_)
       refine goes_ Try.func42 (by kernel_rfl) rfl #[.int .i64 (x4_1.length : Int)] (by rfl) rfl rfl (by (try simp only [List.map_toArray, List.map_cons, List.map_nil]); first | done | rfl | (simp only [List.length_drop, List.length_take]; rfl)) ?_
       with_reducible refine (kotatsuref05_Kind.calls (x4_1.length : Int) t250 _ A6.out).mono ?_
       rintro e w' ⟨rfl, ⟨nd, rfl⟩⟩
       refine ⟨_, rfl, ?_⟩
       refine hK.out _ _ (hHeld) (fun hHeld => ?_)
       clear hK K
       refine norm_ (a' := ?_) ?_ ?_
       rotate_left
       ·show Act.put _ (some 24) _ = _
        simp only [Act.put, List.setIfInBounds_toArray, List.set_cons_zero, List.set_cons_succ, i64_w, i32_w]
        rfl
       refine pure_ (i := 17) (N := some 25) (v := ?_) (a' := ?_) #[true, true, true, true, true, true, true, true, true, true, true, true, true, true, true, true, true, true, false] rfl rfl (any_of HT_.out (by kernel_rfl)) (fun _ _ _ h => h) (Or.inl ⟨by rfl, ?_⟩) ?_ ?_
       rotate_left
       ·intro w'
        go_simp
        with_reducible rfl
       rotate_left
       ·simp only [Act.put, List.setIfInBounds_toArray, List.set_cons_zero, List.set_cons_succ, i64_w, i32_w]
        rfl
       refine pure_ (i := 18) (N := some 26) (v := ?_) (a' := ?_) #[true, true, true, true, true, true, true, true, true, true, true, true, true, true, true, true, true, true, true] rfl rfl (any_of HT_.out (by kernel_rfl)) (fun _ _ _ h => h) (Or.inl ⟨by rfl, ?_⟩) ?_ ?_
       rotate_left
       ·intro w'
        go_simp
        with_reducible rfl
       rotate_left
       ·simp only [Act.put, List.setIfInBounds_toArray, List.set_cons_zero, List.set_cons_succ, i64_w, i32_w]
        rfl
       refine done_ (done_of HT_.out (by kernel_rfl)) ?_
       try go_wp2
       go_meet
       case rel => exact ⟨_, (((rd l0 x5_1) == t250)), (by first | rfl | (simp; done) | (simp [*]; done)), H', ⟨by have := HK1.out; first | omega | exact Nat.le_refl _⟩, ⟨by (with_reducible repeat (first | apply Kd.V_alloc | apply Kd.V_drewN | apply Kd.V_drew)); exact HO_0.out⟩, ⟨by (with_reducible repeat (first | apply Kd.N_alloc | apply Kd.N_drewN | apply Kd.N_drew)); exact HO_4.out⟩, ⟨by repeat (first | (with_reducible first | exact HB.out | apply below_alloc | apply pw_below_drewN | apply below_drew1) | exact HB.out)⟩⟩
      ·rw [if_neg c5] at H
       exact absurd H (by simp)
     ·rw [if_neg c4] at H
      have c4b0 : decide ((x4_1.length : Int) < 512) = false := decide_eq_false c4
      have c4b1 : decide (x4_1.length < 512) = false := decide_eq_false (by omega)
      clear c4
      have H' := Aside0.mk H
      clear H
      try go_wp2
      have n0_ := Aside0.mk (Kd.V_drew HO_0.out)
      have n1_ := Aside0.mk (Kd.N_drew HO_4.out)
      have n2_ := Aside0.mk (below_drew1 HB.out)
      clear HO_0
      clear HO_4
      clear HB
      have HO_0 := n0_
      have HO_4 := n1_
      have HB := n2_
      clear n0_ n1_ n2_
      obtain ⟨Ao10, co10, eo10⟩ := Kd.N_slice HO_4.out
      (first | subst eo10 | (injection eo10 with f1_ f2_ f3_; have f4_ := f1_.symm; have f5_ := f3_.symm; clear f1_ f2_ f3_; subst f4_; subst f5_))
      refine start_ (n := 19) (S := fun w' => True) (ds := []) #[false, false, false, false, false, false, false, false, false, false, false, false, false, false, false, false, false, false, false] (by kernel_rfl) rfl rfl trivial (fun hHeld => ?_); refine with_tabW kotatsuref06_Unwrap.tab3 kotatsuref06_Unwrap.bits3 (fun HT_ HW_ => ?_)
      generalize wr.drew = w9 at HO_0 HO_4 HB hHeld ⊢
      refine pure_ (i := 0) (N := some 8) (v := ?_) (a' := ?_) #[true, false, false, false, false, false, false, false, false, false, false, false, false, false, false, false, false, false, false] rfl rfl (any_of HT_.out (by kernel_rfl)) (fun _ _ _ h => h) (Or.inl ⟨by rfl, ?_⟩) ?_ ?_
      rotate_left
      ·intro w'
       go_simp
       with_reducible rfl
      rotate_left
      ·simp only [Act.put, List.setIfInBounds_toArray, List.set_cons_zero, List.set_cons_succ, i64_w, i32_w]
       rfl
      refine pure_ (i := 1) (N := some 9) (v := ?_) (a' := ?_) #[true, true, false, false, false, false, false, false, false, false, false, false, false, false, false, false, false, false, false] rfl rfl (any_of HT_.out (by kernel_rfl)) (fun _ _ _ h => h) (Or.inl ⟨by rfl, ?_⟩) ?_ ?_
      rotate_left
      ·intro w'
       go_simp
       with_reducible rfl
      rotate_left
      ·simp only [Act.put, List.setIfInBounds_toArray, List.set_cons_zero, List.set_cons_succ, i64_w, i32_w]
       rfl
      refine pure_ (i := 2) (N := some 10) (v := ?_) (a' := ?_) #[true, true, true, false, false, false, false, false, false, false, false, false, false, false, false, false, false, false, false] rfl rfl (any_of HT_.out (by kernel_rfl)) (fun _ _ _ h => h) (Or.inl ⟨by rfl, ?_⟩) ?_ ?_
      rotate_left
      ·intro w'
       go_simp
       with_reducible rfl
      rotate_left
      ·simp only [Act.put, List.setIfInBounds_toArray, List.set_cons_zero, List.set_cons_succ, i64_w, i32_w]
       rfl
      refine pure_ (i := 3) (N := some 11) (v := ?_) (a' := ?_) #[true, true, true, true, false, false, false, false, false, false, false, false, false, false, false, false, false, false, false] rfl rfl (any_of HT_.out (by kernel_rfl)) (fun _ _ _ h => h) (Or.inl ⟨by rfl, ?_⟩) ?_ ?_
      rotate_left
      ·intro w'
       go_simp
       with_reducible rfl
      rotate_left
      ·simp only [Act.put, List.setIfInBounds_toArray, List.set_cons_zero, List.set_cons_succ, i64_w, i32_w]
       rfl
      refine pure_ (i := 4) (N := some 12) (v := ?_) (a' := ?_) #[true, true, true, true, true, false, false, false, false, false, false, false, false, false, false, false, false, false, false] rfl rfl (any_of HT_.out (by kernel_rfl)) (fun _ _ _ h => h) (Or.inl ⟨by rfl, ?_⟩) ?_ ?_
      rotate_left
      ·intro w'
       go_simp
       with_reducible rfl
      rotate_left
      ·simp only [Act.put, List.setIfInBounds_toArray, List.set_cons_zero, List.set_cons_succ, i64_w, i32_w]
       rfl
      refine pure_ (i := 5) (N := some 13) (v := ?_) (a' := ?_) #[true, true, true, true, true, true, false, false, false, false, false, false, false, false, false, false, false, false, false] rfl rfl (any_of HT_.out (by kernel_rfl)) (fun _ _ _ h => h) (Or.inl ⟨by rfl, ?_⟩) ?_ ?_
      rotate_left
      ·intro w'
       go_simp
       with_reducible rfl
      rotate_left
      ·simp only [Act.put, List.setIfInBounds_toArray, List.set_cons_zero, List.set_cons_succ, i64_w, i32_w]
       rfl
      refine pure_ (i := 6) (N := some 14) (v := ?_) (a' := ?_) #[true, true, true, true, true, true, true, false, false, false, false, false, false, false, false, false, false, false, false] rfl rfl (any_of HT_.out (by kernel_rfl)) (fun _ _ _ h => h) (Or.inl ⟨by rfl, ?_⟩) ?_ ?_
      rotate_left
      ·intro w'
       go_simp
       with_reducible rfl
      rotate_left
      ·simp only [Act.put, List.setIfInBounds_toArray, List.set_cons_zero, List.set_cons_succ, i64_w, i32_w]
       rfl
      refine pure_ (i := 7) (N := some 15) (v := ?_) (a' := ?_) #[true, true, true, true, true, true, true, true, false, false, false, false, false, false, false, false, false, false, false] rfl rfl (any_of HT_.out (by kernel_rfl)) (fun _ _ _ h => h) (Or.inl ⟨by rfl, ?_⟩) ?_ ?_
      rotate_left
      ·intro w'
       go_simp
       with_reducible rfl
      rotate_left
      ·simp only [Act.put, List.setIfInBounds_toArray, List.set_cons_zero, List.set_cons_succ, i64_w, i32_w]
       rfl
      refine pure_ (i := 8) (N := some 16) (v := ?_) (a' := ?_) #[true, true, true, true, true, true, true, true, true, false, false, false, false, false, false, false, false, false, false] rfl rfl (any_of HT_.out (by kernel_rfl)) (fun _ _ _ h => h) (Or.inl ⟨by rfl, ?_⟩) ?_ ?_
      rotate_left
      ·intro w'
       go_simp
       with_reducible rfl
      rotate_left
      ·simp only [Act.put, List.setIfInBounds_toArray, List.set_cons_zero, List.set_cons_succ, i64_w, i32_w]
       rfl
      refine pure_ (i := 9) (N := some 17) (v := ?_) (a' := ?_) #[true, true, true, true, true, true, true, true, true, true, false, false, false, false, false, false, false, false, false] rfl rfl (any_of HT_.out (by kernel_rfl)) (fun _ _ _ h => h) (Or.inl ⟨by rfl, ?_⟩) ?_ ?_
      rotate_left
      ·intro w'
       go_simp
       with_reducible rfl
      rotate_left
      ·simp only [Act.put, List.setIfInBounds_toArray, List.set_cons_zero, List.set_cons_succ, i64_w, i32_w]
       rfl
      refine pure_ (i := 10) (N := some 18) (v := undef) (a' := ?_) #[true, true, true, true, true, true, true, true, true, true, true, false, false, false, false, false, false, false, false] rfl rfl (any_of HT_.out (by kernel_rfl)) (fun _ _ _ h => h) (Or.inr ⟨by rfl, rfl⟩) ?_ ?_
      rotate_left
      ·simp only [Act.put, List.setIfInBounds_toArray, List.set_cons_zero, List.set_cons_succ, i64_w, i32_w]
       rfl
      refine pure_ (i := 11) (N := some 19) (v := undef) (a' := ?_) #[true, true, true, true, true, true, true, true, true, true, true, true, false, false, false, false, false, false, false] rfl rfl (any_of HT_.out (by kernel_rfl)) (fun _ _ _ h => h) (Or.inr ⟨by rfl, rfl⟩) ?_ ?_
      rotate_left
      ·simp only [Act.put, List.setIfInBounds_toArray, List.set_cons_zero, List.set_cons_succ, i64_w, i32_w]
       rfl
      refine pure_ (i := 12) (N := some 20) (v := undef) (a' := ?_) #[true, true, true, true, true, true, true, true, true, true, true, true, true, false, false, false, false, false, false] rfl rfl (any_of HT_.out (by kernel_rfl)) (fun _ _ _ h => h) (Or.inr ⟨by rfl, rfl⟩) ?_ ?_
      rotate_left
      ·simp only [Act.put, List.setIfInBounds_toArray, List.set_cons_zero, List.set_cons_succ, i64_w, i32_w]
       rfl
      refine pure_ (i := 13) (N := some 21) (v := undef) (a' := ?_) #[true, true, true, true, true, true, true, true, true, true, true, true, true, true, false, false, false, false, false] rfl rfl (any_of HT_.out (by kernel_rfl)) (fun _ _ _ h => h) (Or.inr ⟨by rfl, rfl⟩) ?_ ?_
      rotate_left
      ·simp only [Act.put, List.setIfInBounds_toArray, List.set_cons_zero, List.set_cons_succ, i64_w, i32_w]
       rfl
      refine pure_ (i := 14) (N := some 22) (v := undef) (a' := ?_) #[true, true, true, true, true, true, true, true, true, true, true, true, true, true, true, false, false, false, false] rfl rfl (any_of HT_.out (by kernel_rfl)) (fun _ _ _ h => h) (Or.inr ⟨by rfl, rfl⟩) ?_ ?_
      rotate_left
      ·simp only [Act.put, List.setIfInBounds_toArray, List.set_cons_zero, List.set_cons_succ, i64_w, i32_w]
       rfl
      refine pure_ (i := 15) (N := some 23) (v := undef) (a' := ?_) #[true, true, true, true, true, true, true, true, true, true, true, true, true, true, true, true, false, false, false] rfl rfl (any_of HT_.out (by kernel_rfl)) (fun _ _ _ h => h) (Or.inr ⟨by rfl, rfl⟩) ?_ ?_
      rotate_left
      ·simp only [Act.put, List.setIfInBounds_toArray, List.set_cons_zero, List.set_cons_succ, i64_w, i32_w]
       rfl
      refine pure_ (i := 16) (N := some 24) (v := undef) (a' := ?_) #[true, true, true, true, true, true, true, true, true, true, true, true, true, true, true, true, true, false, false] rfl rfl (any_of HT_.out (by kernel_rfl)) (fun _ _ _ h => h) (Or.inr ⟨by rfl, rfl⟩) ?_ ?_
      rotate_left
      ·simp only [Act.put, List.setIfInBounds_toArray, List.set_cons_zero, List.set_cons_succ, i64_w, i32_w]
       rfl
      refine pure_ (i := 17) (N := some 25) (v := undef) (a' := ?_) #[true, true, true, true, true, true, true, true, true, true, true, true, true, true, true, true, true, true, false] rfl rfl (any_of HT_.out (by kernel_rfl)) (fun _ _ _ h => h) (Or.inr ⟨by rfl, rfl⟩) ?_ ?_
      rotate_left
      ·simp only [Act.put, List.setIfInBounds_toArray, List.set_cons_zero, List.set_cons_succ, i64_w, i32_w]
       rfl
      refine pure_ (i := 18) (N := some 26) (v := ?_) (a' := ?_) #[true, true, true, true, true, true, true, true, true, true, true, true, true, true, true, true, true, true, true] rfl rfl (any_of HT_.out (by kernel_rfl)) (fun _ _ _ h => h) (Or.inl ⟨by rfl, ?_⟩) ?_ ?_
      rotate_left
      ·intro w'
       go_simp
       with_reducible rfl
      rotate_left
      ·simp only [Act.put, List.setIfInBounds_toArray, List.set_cons_zero, List.set_cons_succ, i64_w, i32_w]
       rfl
      refine done_ (done_of HT_.out (by kernel_rfl)) ?_
      try go_wp2
      go_meet
      case rel => exact ⟨_, (false), (by first | rfl | (simp; done) | (simp [*]; done)), H', ⟨by have := HK1.out; first | omega | exact Nat.le_refl _⟩, ⟨by (with_reducible repeat (first | apply Kd.V_alloc | apply Kd.V_drewN | apply Kd.V_drew)); exact HO_0.out⟩, ⟨by (with_reducible repeat (first | apply Kd.N_alloc | apply Kd.N_drewN | apply Kd.N_drew)); exact HO_4.out⟩, ⟨by repeat (first | (with_reducible first | exact HB.out | apply below_alloc | apply pw_below_drewN | apply below_drew1) | exact HB.out)⟩⟩
    ·rw [if_neg c3] at H
     have c3b0 : decide (x5_1 < (l0.length : Int)) = false := decide_eq_false c3
     clear c3
     (first | rw [c3b0] | (simp only [i64_w, i32_w]; rw [c3b0]) | skip)
     have H' := Aside0.mk H
     clear H
     try go_wp2
     have n0_ := Aside0.mk (Kd.V_drew HO_0.out)
     have n1_ := Aside0.mk (Kd.N_drew HO_4.out)
     have n2_ := Aside0.mk (below_drew1 HB.out)
     clear HO_0
     clear HO_4
     clear HB
     have HO_0 := n0_
     have HO_4 := n1_
     have HB := n2_
     clear n0_ n1_ n2_
     refine start_ (n := 19) (S := fun w' => True) (ds := []) #[false, false, false, false, false, false, false, false, false, false, false, false, false, false, false, false, false, false, false] (by kernel_rfl) rfl rfl trivial (fun hHeld => ?_); refine with_tabW kotatsuref06_Unwrap.tab3 kotatsuref06_Unwrap.bits3 (fun HT_ HW_ => ?_)
     generalize wr.drew = w11 at HO_0 HO_4 HB hHeld ⊢
     refine pure_ (i := 0) (N := some 8) (v := ?_) (a' := ?_) #[true, false, false, false, false, false, false, false, false, false, false, false, false, false, false, false, false, false, false] rfl rfl (any_of HT_.out (by kernel_rfl)) (fun _ _ _ h => h) (Or.inl ⟨by rfl, ?_⟩) ?_ ?_
     rotate_left
     ·intro w'
      go_simp
      with_reducible rfl
     rotate_left
     ·simp only [Act.put, List.setIfInBounds_toArray, List.set_cons_zero, List.set_cons_succ, i64_w, i32_w]
      rfl
     refine pure_ (i := 1) (N := some 9) (v := ?_) (a' := ?_) #[true, true, false, false, false, false, false, false, false, false, false, false, false, false, false, false, false, false, false] rfl rfl (any_of HT_.out (by kernel_rfl)) (fun _ _ _ h => h) (Or.inl ⟨by rfl, ?_⟩) ?_ ?_
     rotate_left
     ·intro w'
      go_simp
      with_reducible rfl
     rotate_left
     ·simp only [Act.put, List.setIfInBounds_toArray, List.set_cons_zero, List.set_cons_succ, i64_w, i32_w]
      rfl
     refine pure_ (i := 2) (N := some 10) (v := ?_) (a' := ?_) #[true, true, true, false, false, false, false, false, false, false, false, false, false, false, false, false, false, false, false] rfl rfl (any_of HT_.out (by kernel_rfl)) (fun _ _ _ h => h) (Or.inl ⟨by rfl, ?_⟩) ?_ ?_
     rotate_left
     ·intro w'
      go_simp
      with_reducible rfl
     rotate_left
     ·simp only [Act.put, List.setIfInBounds_toArray, List.set_cons_zero, List.set_cons_succ, i64_w, i32_w]
      rfl
     refine pure_ (i := 3) (N := some 11) (v := ?_) (a' := ?_) #[true, true, true, true, false, false, false, false, false, false, false, false, false, false, false, false, false, false, false] rfl rfl (any_of HT_.out (by kernel_rfl)) (fun _ _ _ h => h) (Or.inl ⟨by rfl, ?_⟩) ?_ ?_
     rotate_left
     ·intro w'
      go_simp
      with_reducible rfl
     rotate_left
     ·simp only [Act.put, List.setIfInBounds_toArray, List.set_cons_zero, List.set_cons_succ, i64_w, i32_w]
      rfl
     refine pure_ (i := 4) (N := some 12) (v := ?_) (a' := ?_) #[true, true, true, true, true, false, false, false, false, false, false, false, false, false, false, false, false, false, false] rfl rfl (any_of HT_.out (by kernel_rfl)) (fun _ _ _ h => h) (Or.inl ⟨by rfl, ?_⟩) ?_ ?_
     rotate_left
     ·intro w'
      go_simp
      with_reducible rfl
     rotate_left
     ·simp only [Act.put, List.setIfInBounds_toArray, List.set_cons_zero, List.set_cons_succ, i64_w, i32_w]
      rfl
     refine pure_ (i := 5) (N := some 13) (v := undef) (a' := ?_) #[true, true, true, true, true, true, false, false, false, false, false, false, false, false, false, false, false, false, false] rfl rfl (any_of HT_.out (by kernel_rfl)) (fun _ _ _ h => h) (Or.inr ⟨by rfl, rfl⟩) ?_ ?_
     rotate_left
     ·simp only [Act.put, List.setIfInBounds_toArray, List.set_cons_zero, List.set_cons_succ, i64_w, i32_w]
      rfl
     refine pure_ (i := 6) (N := some 14) (v := undef) (a' := ?_) #[true, true, true, true, true, true, true, false, false, false, false, false, false, false, false, false, false, false, false] rfl rfl (any_of HT_.out (by kernel_rfl)) (fun _ _ _ h => h) (Or.inr ⟨by rfl, rfl⟩) ?_ ?_
     rotate_left
     ·simp only [Act.put, List.setIfInBounds_toArray, List.set_cons_zero, List.set_cons_succ, i64_w, i32_w]
      rfl
     refine pure_ (i := 7) (N := some 15) (v := undef) (a' := ?_) #[true, true, true, true, true, true, true, true, false, false, false, false, false, false, false, false, false, false, false] rfl rfl (any_of HT_.out (by kernel_rfl)) (fun _ _ _ h => h) (Or.inr ⟨by rfl, rfl⟩) ?_ ?_
     rotate_left
     ·simp only [Act.put, List.setIfInBounds_toArray, List.set_cons_zero, List.set_cons_succ, i64_w, i32_w]
      rfl
     refine pure_ (i := 8) (N := some 16) (v := ?_) (a' := ?_) #[true, true, true, true, true, true, true, true, true, false, false, false, false, false, false, false, false, false, false] rfl rfl (any_of HT_.out (by kernel_rfl)) (fun _ _ _ h => h) (Or.inl ⟨by rfl, ?_⟩) ?_ ?_
     rotate_left
     ·intro w'
      go_simp
      with_reducible rfl
     rotate_left
     ·simp only [Act.put, List.setIfInBounds_toArray, List.set_cons_zero, List.set_cons_succ, i64_w, i32_w]
      rfl
     refine pure_ (i := 9) (N := some 17) (v := ?_) (a' := ?_) #[true, true, true, true, true, true, true, true, true, true, false, false, false, false, false, false, false, false, false] rfl rfl (any_of HT_.out (by kernel_rfl)) (fun _ _ _ h => h) (Or.inl ⟨by rfl, ?_⟩) ?_ ?_
     rotate_left
     ·intro w'
      go_simp
      with_reducible rfl
     rotate_left
     ·simp only [Act.put, List.setIfInBounds_toArray, List.set_cons_zero, List.set_cons_succ, i64_w, i32_w]
      rfl
     refine pure_ (i := 10) (N := some 18) (v := undef) (a' := ?_) #[true, true, true, true, true, true, true, true, true, true, true, false, false, false, false, false, false, false, false] rfl rfl (any_of HT_.out (by kernel_rfl)) (fun _ _ _ h => h) (Or.inr ⟨by rfl, rfl⟩) ?_ ?_
     rotate_left
     ·simp only [Act.put, List.setIfInBounds_toArray, List.set_cons_zero, List.set_cons_succ, i64_w, i32_w]
      rfl
     refine pure_ (i := 11) (N := some 19) (v := undef) (a' := ?_) #[true, true, true, true, true, true, true, true, true, true, true, true, false, false, false, false, false, false, false] rfl rfl (any_of HT_.out (by kernel_rfl)) (fun _ _ _ h => h) (Or.inr ⟨by rfl, rfl⟩) ?_ ?_
     rotate_left
     ·simp only [Act.put, List.setIfInBounds_toArray, List.set_cons_zero, List.set_cons_succ, i64_w, i32_w]
      rfl
     refine pure_ (i := 12) (N := some 20) (v := undef) (a' := ?_) #[true, true, true, true, true, true, true, true, true, true, true, true, true, false, false, false, false, false, false] rfl rfl (any_of HT_.out (by kernel_rfl)) (fun _ _ _ h => h) (Or.inr ⟨by rfl, rfl⟩) ?_ ?_
     rotate_left
     ·simp only [Act.put, List.setIfInBounds_toArray, List.set_cons_zero, List.set_cons_succ, i64_w, i32_w]
      rfl
     refine pure_ (i := 13) (N := some 21) (v := undef) (a' := ?_) #[true, true, true, true, true, true, true, true, true, true, true, true, true, true, false, false, false, false, false] rfl rfl (any_of HT_.out (by kernel_rfl)) (fun _ _ _ h => h) (Or.inr ⟨by rfl, rfl⟩) ?_ ?_
     rotate_left
     ·simp only [Act.put, List.setIfInBounds_toArray, List.set_cons_zero, List.set_cons_succ, i64_w, i32_w]
      rfl
     refine pure_ (i := 14) (N := some 22) (v := undef) (a' := ?_) #[true, true, true, true, true, true, true, true, true, true, true, true, true, true, true, false, false, false, false] rfl rfl (any_of HT_.out (by kernel_rfl)) (fun _ _ _ h => h) (Or.inr ⟨by rfl, rfl⟩) ?_ ?_
     rotate_left
     ·simp only [Act.put, List.setIfInBounds_toArray, List.set_cons_zero, List.set_cons_succ, i64_w, i32_w]
      rfl
     refine pure_ (i := 15) (N := some 23) (v := undef) (a' := ?_) #[true, true, true, true, true, true, true, true, true, true, true, true, true, true, true, true, false, false, false] rfl rfl (any_of HT_.out (by kernel_rfl)) (fun _ _ _ h => h) (Or.inr ⟨by rfl, rfl⟩) ?_ ?_
     rotate_left
     ·simp only [Act.put, List.setIfInBounds_toArray, List.set_cons_zero, List.set_cons_succ, i64_w, i32_w]
      rfl
     refine pure_ (i := 16) (N := some 24) (v := undef) (a' := ?_) #[true, true, true, true, true, true, true, true, true, true, true, true, true, true, true, true, true, false, false] rfl rfl (any_of HT_.out (by kernel_rfl)) (fun _ _ _ h => h) (Or.inr ⟨by rfl, rfl⟩) ?_ ?_
     rotate_left
     ·simp only [Act.put, List.setIfInBounds_toArray, List.set_cons_zero, List.set_cons_succ, i64_w, i32_w]
      rfl
     refine pure_ (i := 17) (N := some 25) (v := undef) (a' := ?_) #[true, true, true, true, true, true, true, true, true, true, true, true, true, true, true, true, true, true, false] rfl rfl (any_of HT_.out (by kernel_rfl)) (fun _ _ _ h => h) (Or.inr ⟨by rfl, rfl⟩) ?_ ?_
     rotate_left
     ·simp only [Act.put, List.setIfInBounds_toArray, List.set_cons_zero, List.set_cons_succ, i64_w, i32_w]
      rfl
     refine pure_ (i := 18) (N := some 26) (v := ?_) (a' := ?_) #[true, true, true, true, true, true, true, true, true, true, true, true, true, true, true, true, true, true, true] rfl rfl (any_of HT_.out (by kernel_rfl)) (fun _ _ _ h => h) (Or.inl ⟨by rfl, ?_⟩) ?_ ?_
     rotate_left
     ·intro w'
      go_simp
      with_reducible rfl
     rotate_left
     ·simp only [Act.put, List.setIfInBounds_toArray, List.set_cons_zero, List.set_cons_succ, i64_w, i32_w]
      rfl
     refine done_ (done_of HT_.out (by kernel_rfl)) ?_
     try go_wp2
     go_meet
     case rel => exact ⟨_, (false), (by first | rfl | (simp; done) | (simp [*]; done)), H', ⟨by have := HK1.out; first | omega | exact Nat.le_refl _⟩, ⟨by (with_reducible repeat (first | apply Kd.V_alloc | apply Kd.V_drewN | apply Kd.V_drew)); exact HO_0.out⟩, ⟨by (with_reducible repeat (first | apply Kd.N_alloc | apply Kd.N_drewN | apply Kd.N_drew)); exact HO_4.out⟩, ⟨by repeat (first | (with_reducible first | exact HB.out | apply below_alloc | apply pw_below_drewN | apply below_drew1) | exact HB.out)⟩⟩
   case rest =>
    clear HC2
    try clear c2
    try clear p2
    try clear q2
    try clear hx2
    try clear c3
    try clear c3b0
    try clear c4
    try clear c4b0
    try clear c4b1
    try clear c5
    try clear c5b0
    try clear hx249_0
    try clear p249
    try clear q249
    obtain ⟨kq, x26_1, rfl, HA, HJ1, HO_0, HO_4, HB⟩ := hcut
    cases kq with
    | zero => exact absurd HA.out (by simp [kotatsuref06_Unwrap.j1])
    | succ kj1 =>
     have H := HA.out
     clear HA
     simp only [kotatsuref06_Unwrap.j1] at H
     by_cases c12 : x26_1 = true
     ·subst c12
      have H1 : (if (x4_1.length : Int) > 0 then (if 0 ≤ (wrap64 ((x4_1.length : Int) - 1)) then (if (wrap64 ((x4_1.length : Int) - 1)) < (x4_1.length : Int) then ((kotatsuref05_Bytes.f (x4_1.length : Int) ((rd_T69 x4_1 (wrap64 ((x4_1.length : Int) - 1))).f1)).bind fun t252 => (if (wrap64 ((wrap64 (x5_1 + t252)) + 3)) > (l0.length : Int) then (some (([] : List (S69)), 2)) else (if 0 ≤ (wrap64 ((wrap64 (x5_1 + t252)) + 1)) then (if (wrap64 ((wrap64 (x5_1 + t252)) + 1)) ≤ (wrap64 ((wrap64 (x5_1 + t252)) + 3)) then (if (wrap64 ((wrap64 (x5_1 + t252)) + 3)) ≤ (l0.length : Int) then ((kotatsuref02_Take.f kj1 ((l0.take ((wrap64 ((wrap64 (x5_1 + t252)) + 3)) : Int).toNat).drop ((wrap64 ((wrap64 (x5_1 + t252)) + 1)) : Int).toNat)).bind fun t258 => (if 0 ≤ x5_1 then (if x5_1 ≤ (wrap64 ((wrap64 (x5_1 + t252)) + 1)) then (if (wrap64 ((wrap64 (x5_1 + t252)) + 1)) ≤ (l0.length : Int) then ((kotatsuref02_Short.f kj1 ((l0.take ((wrap64 ((wrap64 (x5_1 + t252)) + 1)) : Int).toNat).drop (x5_1 : Int).toNat)).bind fun t264 => (if t258 = (IntKind.u64.wrap (t264)) then (if x5_1 < (l0.length : Int) then (if 0 ≤ (wrap64 (x5_1 + 1)) then (if (wrap64 (x5_1 + 1)) ≤ (wrap64 ((wrap64 (x5_1 + t252)) + 1)) then ((kotatsuref01_Join.f kj1 (([((l0.take ((wrap64 ((wrap64 (x5_1 + t252)) + 1)) : Int).toNat).drop ((wrap64 (x5_1 + 1)) : Int).toNat)] : List (List Int)))).bind fun t274 => (if x4_1.length < 4398046511104 then (kotatsuref06_Unwrap.l0 kj1 l0 (x4_1 ++ [(⟨rd l0 x5_1, t274⟩ : S69)]) (wrap64 (x5_1 + (wrap64 (t252 + 3))))) else (none))) else (none)) else (none)) else (none)) else (some (([] : List (S69)), 3)))) else (none)) else (none)) else (none))) else (none)) else (none)) else (none)))) else (none)) else (none)) else ((kotatsuref05_Bytes.f (x4_1.length : Int) ([] : List Int)).bind fun t280 => (if (wrap64 ((wrap64 (x5_1 + t280)) + 3)) > (l0.length : Int) then (some (([] : List (S69)), 2)) else (if 0 ≤ (wrap64 ((wrap64 (x5_1 + t280)) + 1)) then (if (wrap64 ((wrap64 (x5_1 + t280)) + 1)) ≤ (wrap64 ((wrap64 (x5_1 + t280)) + 3)) then (if (wrap64 ((wrap64 (x5_1 + t280)) + 3)) ≤ (l0.length : Int) then ((kotatsuref02_Take.f kj1 ((l0.take ((wrap64 ((wrap64 (x5_1 + t280)) + 3)) : Int).toNat).drop ((wrap64 ((wrap64 (x5_1 + t280)) + 1)) : Int).toNat)).bind fun t286 => (if 0 ≤ x5_1 then (if x5_1 ≤ (wrap64 ((wrap64 (x5_1 + t280)) + 1)) then (if (wrap64 ((wrap64 (x5_1 + t280)) + 1)) ≤ (l0.length : Int) then ((kotatsuref02_Short.f kj1 ((l0.take ((wrap64 ((wrap64 (x5_1 + t280)) + 1)) : Int).toNat).drop (x5_1 : Int).toNat)).bind fun t292 => (if t286 = (IntKind.u64.wrap (t292)) then (if x5_1 < (l0.length : Int) then (if 0 ≤ (wrap64 (x5_1 + 1)) then (if (wrap64 (x5_1 + 1)) ≤ (wrap64 ((wrap64 (x5_1 + t280)) + 1)) then ((kotatsuref01_Join.f kj1 (([((l0.take ((wrap64 ((wrap64 (x5_1 + t280)) + 1)) : Int).toNat).drop ((wrap64 (x5_1 + 1)) : Int).toNat)] : List (List Int)))).bind fun t302 => (if x4_1.length < 4398046511104 then (kotatsuref06_Unwrap.l0 kj1 l0 (x4_1 ++ [(⟨rd l0 x5_1, t302⟩ : S69)]) (wrap64 (x5_1 + (wrap64 (t280 + 3))))) else (none))) else (none)) else (none)) else (none)) else (some (([] : List (S69)), 3)))) else (none)) else (none)) else (none))) else (none)) else (none)) else (none))))) = some (r1, r2) := by rw [if_pos rfl] at H; exact H
      clear H
      have H := H1
      clear H1
      by_cases c13 : (x4_1.length : Int) > 0
      ·rw [if_pos c13] at H
       have c13b0 : decide (0 < (x4_1.length : Int)) = true := decide_eq_true c13
       have c13b1 : decide (0 < x4_1.length) = true := decide_eq_true (by omega)
       clear c13
       obtain ⟨ji14, hji14⟩ : ∃ j_ : Int, (wrap64 ((x4_1.length : Int) - 1)) = j_ := ⟨_, rfl⟩
       replace H : (if 0 ≤ (ji14) then (if (ji14) < (x4_1.length : Int) then ((kotatsuref05_Bytes.f (x4_1.length : Int) ((rd_T69 x4_1 (ji14)).f1)).bind fun t252 => (if (wrap64 ((wrap64 (x5_1 + t252)) + 3)) > (l0.length : Int) then (some (([] : List (S69)), 2)) else (if 0 ≤ (wrap64 ((wrap64 (x5_1 + t252)) + 1)) then (if (wrap64 ((wrap64 (x5_1 + t252)) + 1)) ≤ (wrap64 ((wrap64 (x5_1 + t252)) + 3)) then (if (wrap64 ((wrap64 (x5_1 + t252)) + 3)) ≤ (l0.length : Int) then ((kotatsuref02_Take.f kj1 ((l0.take ((wrap64 ((wrap64 (x5_1 + t252)) + 3)) : Int).toNat).drop ((wrap64 ((wrap64 (x5_1 + t252)) + 1)) : Int).toNat)).bind fun t258 => (if 0 ≤ x5_1 then (if x5_1 ≤ (wrap64 ((wrap64 (x5_1 + t252)) + 1)) then (if (wrap64 ((wrap64 (x5_1 + t252)) + 1)) ≤ (l0.length : Int) then ((kotatsuref02_Short.f kj1 ((l0.take ((wrap64 ((wrap64 (x5_1 + t252)) + 1)) : Int).toNat).drop (x5_1 : Int).toNat)).bind fun t264 => (if t258 = (IntKind.u64.wrap (t264)) then (if x5_1 < (l0.length : Int) then (if 0 ≤ (wrap64 (x5_1 + 1)) then (if (wrap64 (x5_1 + 1)) ≤ (wrap64 ((wrap64 (x5_1 + t252)) + 1)) then ((kotatsuref01_Join.f kj1 (([((l0.take ((wrap64 ((wrap64 (x5_1 + t252)) + 1)) : Int).toNat).drop ((wrap64 (x5_1 + 1)) : Int).toNat)] : List (List Int)))).bind fun t274 => (if x4_1.length < 4398046511104 then (kotatsuref06_Unwrap.l0 kj1 l0 (x4_1 ++ [(⟨rd l0 x5_1, t274⟩ : S69)]) (wrap64 (x5_1 + (wrap64 (t252 + 3))))) else (none))) else (none)) else (none)) else (none)) else (some (([] : List (S69)), 3)))) else (none)) else (none)) else (none))) else (none)) else (none)) else (none)))) else (none)) else (none)) = some (r1, r2) := by first | (rw [hji14] at H; exact H) | (simp only [hji14] at H ⊢; exact H)
       have hji14w : (IntKind.i64.wrap ((x4_1.length : Int) - 1)) = ji14 := (i64_w _).trans hji14
       by_cases c15 : 0 ≤ (ji14)
       ·rw [if_pos c15] at H
        have c15b0 : decide (0 ≤ (ji14)) = true := decide_eq_true c15
        clear c15
        by_cases c16 : (ji14) < (x4_1.length : Int)
        ·rw [if_pos c16] at H
         have c16b0 : decide ((ji14) < (x4_1.length : Int)) = true := decide_eq_true c16
         clear c16
         replace H := Option.bind_eq_some_iff.mp H
         obtain ⟨t252, A170, H⟩ := H
         replace H : (if (wrap64 ((wrap64 (x5_1 + t252)) + 3)) > (l0.length : Int) then (some (([] : List (S69)), 2)) else (if 0 ≤ (wrap64 ((wrap64 (x5_1 + t252)) + 1)) then (if (wrap64 ((wrap64 (x5_1 + t252)) + 1)) ≤ (wrap64 ((wrap64 (x5_1 + t252)) + 3)) then (if (wrap64 ((wrap64 (x5_1 + t252)) + 3)) ≤ (l0.length : Int) then ((kotatsuref02_Take.f kj1 ((l0.take ((wrap64 ((wrap64 (x5_1 + t252)) + 3)) : Int).toNat).drop ((wrap64 ((wrap64 (x5_1 + t252)) + 1)) : Int).toNat)).bind fun t258 => (if 0 ≤ x5_1 then (if x5_1 ≤ (wrap64 ((wrap64 (x5_1 + t252)) + 1)) then (if (wrap64 ((wrap64 (x5_1 + t252)) + 1)) ≤ (l0.length : Int) then ((kotatsuref02_Short.f kj1 ((l0.take ((wrap64 ((wrap64 (x5_1 + t252)) + 1)) : Int).toNat).drop (x5_1 : Int).toNat)).bind fun t264 => (if t258 = (IntKind.u64.wrap (t264)) then (if x5_1 < (l0.length : Int) then (if 0 ≤ (wrap64 (x5_1 + 1)) then (if (wrap64 (x5_1 + 1)) ≤ (wrap64 ((wrap64 (x5_1 + t252)) + 1)) then ((kotatsuref01_Join.f kj1 (([((l0.take ((wrap64 ((wrap64 (x5_1 + t252)) + 1)) : Int).toNat).drop ((wrap64 (x5_1 + 1)) : Int).toNat)] : List (List Int)))).bind fun t274 => (if x4_1.length < 4398046511104 then (kotatsuref06_Unwrap.l0 kj1 l0 (x4_1 ++ [(⟨rd l0 x5_1, t274⟩ : S69)]) (wrap64 (x5_1 + (wrap64 (t252 + 3))))) else (none))) else (none)) else (none)) else (none)) else (some (([] : List (S69)), 3)))) else (none)) else (none)) else (none))) else (none)) else (none)) else (none))) = some (r1, r2) := H
         have A17 := Aside0.mk A170
         clear A170
         by_cases c18 : (wrap64 ((wrap64 (x5_1 + t252)) + 3)) > (l0.length : Int)
         ·rw [if_pos c18] at H
          have c18b0 : decide ((l0.length : Int) < (wrap64 ((wrap64 (x5_1 + t252)) + 3))) = true := decide_eq_true c18
          clear c18
          simp only [Option.some.injEq, Prod.mk.injEq] at H
          obtain ⟨rfl, rfl⟩ := H
          obtain ⟨Ao19, co19, eo19⟩ := Kd.N_slice HO_4.out
          subst eo19
          have p251 : 0 ≤ ((ji14) : Int) := of_decide_eq_true (by first | (with_reducible assumption) | assumption)
          have q251 : (ji14) < (x4_1.length : Int) := of_decide_eq_true (by first | (with_reducible assumption) | assumption)
          obtain ⟨ad251, A251_1, c251_1, e251, hx251_0, hx251_1, hl251_1, hi251_1⟩ := at_T69 (Kd.N_reads' HO_4.out).2.2 (ji14) p251 q251
          cases e251
          obtain ⟨ce251, hce251, hMe251, hcc251⟩ := Kd.N_get HO_4.out z69 (ji14) p251 (by first | exact q251 | exact of_decide_eq_true (by first | (with_reducible assumption) | assumption) | (have e_ := (Kd.N_reads' HO_4.out).1; omega))
          obtain ⟨ua251_1, uc251_1, rfl, ul251_1, ge251_1⟩ := k69_openF hMe251
          have hv251_1 := hcc251 1 _ rfl
          rw [add_field _ _ 1 (by omega)] at hv251_1
          replace hv251_1 := Option.some.inj (hv251_1.symm.trans hx251_1)
          injection hv251_1 with hva_ hvn_ hvc_
          rw [hva_] at ge251_1
          rw [hvc_] at ul251_1
          have HL251_1 := Aside0.mk (show Kd.V (Kd.int .u8) 5 _ w.heap.size _ _ ((rd_T69 x4_1 (ji14)).f1) from Kd.V_mk ul251_1 ge251_1)
          clear hva_ hvn_ hvc_ ge251_1 ul251_1
          clear hcc251 hce251
          have HR251_1 := Aside0.mk hi251_1
          have HC251_1 := Aside0.mk hl251_1
          clear hi251_1 hl251_1
          replace p251 := eq_true p251
          replace q251 := eq_true q251
          go_wp2_with (first | ((with_reducible refine gate_callee (f := 43) rfl ?_); refine goesL_ (some 40) rfl rfl Try.func43 (by kernel_rfl) rfl #[.int .i64 (x4_1.length : Int), .slice A251_1 ((rd_T69 x4_1 (ji14)).f1).length c251_1] rfl (by (try simp only [List.map_toArray, List.map_cons, List.map_nil]); first | done | (simp only [hji14]; rfl) | rfl | (simp only [List.length_drop, List.length_take]; rfl)) ?_; (with_reducible refine (kotatsuref05_Bytes.calls (x4_1.length : Int) _ _ ((rd_T69 x4_1 (ji14)).f1) t252 _ ?side1 ?side2 A17.out).mono ?_); (case side1 => repeat (first | exact (by repeat (first | (with_reducible exact HR251_1.out) | (with_reducible refine Kd.C_alloc ?_ _) | (with_reducible refine Kd.C_drewN ?_ _) | (with_reducible refine Kd.C_drew ?_) | exact HR251_1.out)) | (with_reducible refine Kd.C_alloc ?_ _) | (with_reducible refine Kd.C_drewN ?_ _) | (with_reducible refine Kd.C_drew ?_))); (case side2 => exact HC251_1.out); rintro e w' ⟨rfl, ⟨nd, rfl⟩⟩; refine ⟨_, rfl, ?_⟩))
          go_ret2
          exact ⟨_, by first | rfl | (simp [errW_none, errW_some] <;> rfl) | (simp only [← hji14]; first | rfl | (simp [errW_none, errW_some] <;> rfl)) | (simp [*, errW_none, errW_some] <;> rfl), by first | exact Kd.S_nil _ _ _ _ _ | exact Kd.N_nil _ _ _ _ _ | exact Kd.V_nil _ _ _ _ _ | exact Kd.Q_nil _ _ _ _ _ | exact Kd.R_nil _ _ _ _ _, by repeat (first | (with_reducible first | exact HB.out | apply below_alloc | apply pw_below_drewN | apply below_drew1) | exact HB.out)⟩
         ·rw [if_neg c18] at H
          have c18b0 : decide ((l0.length : Int) < (wrap64 ((wrap64 (x5_1 + t252)) + 3))) = false := decide_eq_false c18
          clear c18
          obtain ⟨ji20, hji20⟩ : ∃ j_ : Int, (wrap64 ((wrap64 (x5_1 + t252)) + 1)) = j_ := ⟨_, rfl⟩
          replace H : (if 0 ≤ (ji20) then (if (ji20) ≤ (wrap64 ((wrap64 (x5_1 + t252)) + 3)) then (if (wrap64 ((wrap64 (x5_1 + t252)) + 3)) ≤ (l0.length : Int) then ((kotatsuref02_Take.f kj1 ((l0.take ((wrap64 ((wrap64 (x5_1 + t252)) + 3)) : Int).toNat).drop ((ji20) : Int).toNat)).bind fun t258 => (if 0 ≤ x5_1 then (if x5_1 ≤ (ji20) then (if (ji20) ≤ (l0.length : Int) then ((kotatsuref02_Short.f kj1 ((l0.take ((ji20) : Int).toNat).drop (x5_1 : Int).toNat)).bind fun t264 => (if t258 = (IntKind.u64.wrap (t264)) then (if x5_1 < (l0.length : Int) then (if 0 ≤ (wrap64 (x5_1 + 1)) then (if (wrap64 (x5_1 + 1)) ≤ (ji20) then ((kotatsuref01_Join.f kj1 (([((l0.take ((ji20) : Int).toNat).drop ((wrap64 (x5_1 + 1)) : Int).toNat)] : List (List Int)))).bind fun t274 => (if x4_1.length < 4398046511104 then (kotatsuref06_Unwrap.l0 kj1 l0 (x4_1 ++ [(⟨rd l0 x5_1, t274⟩ : S69)]) (wrap64 (x5_1 + (wrap64 (t252 + 3))))) else (none))) else (none)) else (none)) else (none)) else (some (([] : List (S69)), 3)))) else (none)) else (none)) else (none))) else (none)) else (none)) else (none)) = some (r1, r2) := by first | (rw [hji20] at H; exact H) | (simp only [hji20] at H ⊢; exact H)
          (try rw [hji20] at A17)
          have hji20w : (IntKind.i64.wrap ((wrap64 (x5_1 + t252)) + 1)) = ji20 := (i64_w _).trans hji20
          by_cases c21 : 0 ≤ (ji20)
          ·rw [if_pos c21] at H
           have c21b0 := eq_true c21
           have c21b1 : decide (0 ≤ (ji20)) = true := decide_eq_true c21
           clear c21
           by_cases c22 : (ji20) ≤ (wrap64 ((wrap64 (x5_1 + t252)) + 3))
           ·rw [if_pos c22] at H
            have c22b0 := eq_true c22
            have c22b1 : decide ((ji20) ≤ (wrap64 ((wrap64 (x5_1 + t252)) + 3))) = true := decide_eq_true c22
            by_cases c23 : (wrap64 ((wrap64 (x5_1 + t252)) + 3)) ≤ (l0.length : Int)
            ·rw [if_pos c23] at H
             have c23b0 := eq_true c23
             have c23b1 : decide ((wrap64 ((wrap64 (x5_1 + t252)) + 3)) ≤ (l0.length : Int)) = true := decide_eq_true c23
             obtain ⟨y253, hy253⟩ : ∃ y_ : List Int, y_ = ((l0.take ((wrap64 ((wrap64 (x5_1 + t252)) + 3)) : Int).toNat).drop ((ji20) : Int).toNat) := ⟨_, rfl⟩
             replace H : ((kotatsuref02_Take.f kj1 y253).bind fun t258 => (if 0 ≤ x5_1 then (if x5_1 ≤ (ji20) then (if (ji20) ≤ (l0.length : Int) then ((kotatsuref02_Short.f kj1 ((l0.take ((ji20) : Int).toNat).drop (x5_1 : Int).toNat)).bind fun t264 => (if t258 = (IntKind.u64.wrap (t264)) then (if x5_1 < (l0.length : Int) then (if 0 ≤ (wrap64 (x5_1 + 1)) then (if (wrap64 (x5_1 + 1)) ≤ (ji20) then ((kotatsuref01_Join.f kj1 (([((l0.take ((ji20) : Int).toNat).drop ((wrap64 (x5_1 + 1)) : Int).toNat)] : List (List Int)))).bind fun t274 => (if x4_1.length < 4398046511104 then (kotatsuref06_Unwrap.l0 kj1 l0 (x4_1 ++ [(⟨rd l0 x5_1, t274⟩ : S69)]) (wrap64 (x5_1 + (wrap64 (t252 + 3))))) else (none))) else (none)) else (none)) else (none)) else (some (([] : List (S69)), 3)))) else (none)) else (none)) else (none))) = some (r1, r2) := by first | (rw [hy253]; with_reducible exact H) | (have H2_ := (Option.bind_some _ _).symm.trans H; rw [hy253]; with_reducible exact H2_) | (have H2_ := (Option.bind_some _ _).symm.trans H; with_reducible exact H2_) | with_reducible exact H | (rw [hy253]; exact H) | exact H
             have Ny253 := Aside0.mk hy253
             clear hy253
             replace H := Option.bind_eq_some_iff.mp H
             obtain ⟨t258, A240, H⟩ := H
             replace H : (if 0 ≤ x5_1 then (if x5_1 ≤ (ji20) then (if (ji20) ≤ (l0.length : Int) then ((kotatsuref02_Short.f kj1 ((l0.take ((ji20) : Int).toNat).drop (x5_1 : Int).toNat)).bind fun t264 => (if t258 = (IntKind.u64.wrap (t264)) then (if x5_1 < (l0.length : Int) then (if 0 ≤ (wrap64 (x5_1 + 1)) then (if (wrap64 (x5_1 + 1)) ≤ (ji20) then ((kotatsuref01_Join.f kj1 (([((l0.take ((ji20) : Int).toNat).drop ((wrap64 (x5_1 + 1)) : Int).toNat)] : List (List Int)))).bind fun t274 => (if x4_1.length < 4398046511104 then (kotatsuref06_Unwrap.l0 kj1 l0 (x4_1 ++ [(⟨rd l0 x5_1, t274⟩ : S69)]) (wrap64 (x5_1 + (wrap64 (t252 + 3))))) else (none))) else (none)) else (none)) else (none)) else (some (([] : List (S69)), 3)))) else (none)) else (none)) else (none)) = some (r1, r2) := H
             have A24 := Aside0.mk A240
             clear A240
             by_cases c25 : 0 ≤ x5_1
             ·rw [if_pos c25] at H
              have c25b0 := eq_true c25
              have c25b1 : decide (0 ≤ x5_1) = true := decide_eq_true c25
              clear c25
              by_cases c26 : x5_1 ≤ (ji20)
              ·rw [if_pos c26] at H
               have c26b0 := eq_true c26
               have c26b1 : decide (x5_1 ≤ (ji20)) = true := decide_eq_true c26
               clear c26
               by_cases c27 : (ji20) ≤ (l0.length : Int)
               ·rw [if_pos c27] at H
                have c27b0 := eq_true c27
                have c27b1 : decide ((ji20) ≤ (l0.length : Int)) = true := decide_eq_true c27
                clear c27
                obtain ⟨y259, hy259⟩ : ∃ y_ : List Int, y_ = ((l0.take ((ji20) : Int).toNat).drop (x5_1 : Int).toNat) := ⟨_, rfl⟩
                replace H : ((kotatsuref02_Short.f kj1 y259).bind fun t264 => (if t258 = (IntKind.u64.wrap (t264)) then (if x5_1 < (l0.length : Int) then (if 0 ≤ (wrap64 (x5_1 + 1)) then (if (wrap64 (x5_1 + 1)) ≤ (ji20) then ((kotatsuref01_Join.f kj1 (([((l0.take ((ji20) : Int).toNat).drop ((wrap64 (x5_1 + 1)) : Int).toNat)] : List (List Int)))).bind fun t274 => (if x4_1.length < 4398046511104 then (kotatsuref06_Unwrap.l0 kj1 l0 (x4_1 ++ [(⟨rd l0 x5_1, t274⟩ : S69)]) (wrap64 (x5_1 + (wrap64 (t252 + 3))))) else (none))) else (none)) else (none)) else (none)) else (some (([] : List (S69)), 3)))) = some (r1, r2) := by first | (rw [hy259]; with_reducible exact H) | (have H2_ := (Option.bind_some _ _).symm.trans H; rw [hy259]; with_reducible exact H2_) | (have H2_ := (Option.bind_some _ _).symm.trans H; with_reducible exact H2_) | with_reducible exact H | (rw [hy259]; exact H) | exact H
                have Ny259 := Aside0.mk hy259
                clear hy259
                replace H := Option.bind_eq_some_iff.mp H
                obtain ⟨t264, A280, H⟩ := H
                replace H : (if t258 = (IntKind.u64.wrap (t264)) then (if x5_1 < (l0.length : Int) then (if 0 ≤ (wrap64 (x5_1 + 1)) then (if (wrap64 (x5_1 + 1)) ≤ (ji20) then ((kotatsuref01_Join.f kj1 (([((l0.take ((ji20) : Int).toNat).drop ((wrap64 (x5_1 + 1)) : Int).toNat)] : List (List Int)))).bind fun t274 => (if x4_1.length < 4398046511104 then (kotatsuref06_Unwrap.l0 kj1 l0 (x4_1 ++ [(⟨rd l0 x5_1, t274⟩ : S69)]) (wrap64 (x5_1 + (wrap64 (t252 + 3))))) else (none))) else (none)) else (none)) else (none)) else (some (([] : List (S69)), 3))) = some (r1, r2) := H
                have A28 := Aside0.mk A280
                clear A280
                by_cases c29 : t258 = (IntKind.u64.wrap (t264))
                ·rw [if_pos c29] at H
                 have c29b0 : (t258 == (IntKind.u64.wrap (t264))) = true := beq_iff_eq.mpr c29
                 have c29b1 : (t258 != (IntKind.u64.wrap (t264))) = false := bne_eq_false_iff_eq.mpr c29
                 clear c29
                 by_cases c30 : x5_1 < (l0.length : Int)
                 ·rw [if_pos c30] at H
                  have c30b0 : decide (x5_1 < (l0.length : Int)) = true := decide_eq_true c30
                  clear c30
                  obtain ⟨ji31, hji31⟩ : ∃ j_ : Int, (wrap64 (x5_1 + 1)) = j_ := ⟨_, rfl⟩
                  replace H : (if 0 ≤ (ji31) then (if (ji31) ≤ (ji20) then ((kotatsuref01_Join.f kj1 (([((l0.take ((ji20) : Int).toNat).drop ((ji31) : Int).toNat)] : List (List Int)))).bind fun t274 => (if x4_1.length < 4398046511104 then (kotatsuref06_Unwrap.l0 kj1 l0 (x4_1 ++ [(⟨rd l0 x5_1, t274⟩ : S69)]) (wrap64 (x5_1 + (wrap64 (t252 + 3))))) else (none))) else (none)) else (none)) = some (r1, r2) := by first | (rw [hji31] at H; exact H) | (simp only [hji31] at H ⊢; exact H)
                  (try rw [hji31] at A17)
                  (try rw [hji31] at A24)
                  (try rw [hji31] at A28)
                  have hji31w : (IntKind.i64.wrap (x5_1 + 1)) = ji31 := (i64_w _).trans hji31
                  by_cases c32 : 0 ≤ (ji31)
                  ·rw [if_pos c32] at H
                   have c32b0 := eq_true c32
                   have c32b1 : decide (0 ≤ (ji31)) = true := decide_eq_true c32
                   clear c32
                   by_cases c33 : (ji31) ≤ (ji20)
                   ·rw [if_pos c33] at H
                    have c33b0 := eq_true c33
                    have c33b1 : decide ((ji31) ≤ (ji20)) = true := decide_eq_true c33
                    clear c33
                    have c34b0 := eq_true (of_decide_eq_true (by first | (with_reducible assumption) | assumption) : (ji20) ≤ (l0.length : Int))
                    obtain ⟨y266, hy266⟩ : ∃ y_ : List Int, y_ = ((l0.take ((ji20) : Int).toNat).drop ((ji31) : Int).toNat) := ⟨_, rfl⟩
                    replace H : ((kotatsuref01_Join.f kj1 (([y266] : List (List Int)))).bind fun t274 => (if x4_1.length < 4398046511104 then (kotatsuref06_Unwrap.l0 kj1 l0 (x4_1 ++ [(⟨rd l0 x5_1, t274⟩ : S69)]) (wrap64 (x5_1 + (wrap64 (t252 + 3))))) else (none))) = some (r1, r2) := by first | (rw [hy266]; with_reducible exact H) | (have H2_ := (Option.bind_some _ _).symm.trans H; rw [hy266]; with_reducible exact H2_) | (have H2_ := (Option.bind_some _ _).symm.trans H; with_reducible exact H2_) | with_reducible exact H | (rw [hy266]; exact H) | exact H
                    have Ny266 := Aside0.mk hy266
                    clear hy266
                    obtain ⟨y271, hy271⟩ : ∃ y_ : List (List Int), y_ = (([y266] : List (List Int))) := ⟨_, rfl⟩
                    replace H : ((kotatsuref01_Join.f kj1 y271).bind fun t274 => (if x4_1.length < 4398046511104 then (kotatsuref06_Unwrap.l0 kj1 l0 (x4_1 ++ [(⟨rd l0 x5_1, t274⟩ : S69)]) (wrap64 (x5_1 + (wrap64 (t252 + 3))))) else (none))) = some (r1, r2) := by first | (rw [hy271]; with_reducible exact H) | (have H2_ := (Option.bind_some _ _).symm.trans H; rw [hy271]; with_reducible exact H2_) | (have H2_ := (Option.bind_some _ _).symm.trans H; with_reducible exact H2_) | with_reducible exact H | (rw [hy271]; exact H) | exact H
                    have Ny271 := Aside0.mk hy271
                    clear hy271
                    replace H := Option.bind_eq_some_iff.mp H
                    obtain ⟨t274, A350, H⟩ := H
                    replace H : (if x4_1.length < 4398046511104 then (kotatsuref06_Unwrap.l0 kj1 l0 (x4_1 ++ [(⟨rd l0 x5_1, t274⟩ : S69)]) (wrap64 (x5_1 + (wrap64 (t252 + 3))))) else (none)) = some (r1, r2) := H
                    have A35 := Aside0.mk A350
                    clear A350
                    by_cases c36 : x4_1.length < 4398046511104
                    ·rw [if_pos c36] at H
                     have LMc36 := Aside0.mk c36
                     clear c36
                     obtain ⟨y277, hy277⟩ : ∃ y_ : List (S69), y_ = (x4_1 ++ [(⟨rd l0 x5_1, t274⟩ : S69)]) := ⟨_, rfl⟩
                     replace H : (kotatsuref06_Unwrap.l0 kj1 l0 y277 (wrap64 (x5_1 + (wrap64 (t252 + 3))))) = some (r1, r2) := by first | (rw [hy277]; with_reducible exact H) | (have H2_ := (Option.bind_some _ _).symm.trans H; rw [hy277]; with_reducible exact H2_) | (have H2_ := (Option.bind_some _ _).symm.trans H; with_reducible exact H2_) | with_reducible exact H | (rw [hy277]; exact H) | exact H
                     have Ny277 := Aside0.mk hy277
                     clear hy277
                     have H' := Aside0.mk H
                     clear H
                     obtain ⟨Ao37, co37, eo37⟩ := Kd.N_slice HO_4.out
                     subst eo37
                     have p251 : 0 ≤ ((ji14) : Int) := of_decide_eq_true (by first | (with_reducible assumption) | assumption)
                     have q251 : (ji14) < (x4_1.length : Int) := of_decide_eq_true (by first | (with_reducible assumption) | assumption)
                     obtain ⟨ad251, A251_1, c251_1, e251, hx251_0, hx251_1, hl251_1, hi251_1⟩ := at_T69 (Kd.N_reads' HO_4.out).2.2 (ji14) p251 q251
                     cases e251
                     obtain ⟨ce251, hce251, hMe251, hcc251⟩ := Kd.N_get HO_4.out z69 (ji14) p251 (by first | exact q251 | exact of_decide_eq_true (by first | (with_reducible assumption) | assumption) | (have e_ := (Kd.N_reads' HO_4.out).1; omega))
                     obtain ⟨ua251_1, uc251_1, rfl, ul251_1, ge251_1⟩ := k69_openF hMe251
                     have hv251_1 := hcc251 1 _ rfl
                     rw [add_field _ _ 1 (by omega)] at hv251_1
                     replace hv251_1 := Option.some.inj (hv251_1.symm.trans hx251_1)
                     injection hv251_1 with hva_ hvn_ hvc_
                     rw [hva_] at ge251_1
                     rw [hvc_] at ul251_1
                     have HL251_1 := Aside0.mk (show Kd.V (Kd.int .u8) 5 _ w.heap.size _ _ ((rd_T69 x4_1 (ji14)).f1) from Kd.V_mk ul251_1 ge251_1)
                     clear hva_ hvn_ hvc_ ge251_1 ul251_1
                     clear hcc251 hce251
                     have HR251_1 := Aside0.mk hi251_1
                     have HC251_1 := Aside0.mk hl251_1
                     clear hi251_1 hl251_1
                     replace p251 := eq_true p251
                     replace q251 := eq_true q251
                     try go_wp2_with (first | ((with_reducible refine gate_callee (f := 43) rfl ?_); refine goesL_ (some 40) rfl rfl Try.func43 (by kernel_rfl) rfl #[.int .i64 (x4_1.length : Int), .slice A251_1 ((rd_T69 x4_1 (ji14)).f1).length c251_1] rfl (by (try simp only [List.map_toArray, List.map_cons, List.map_nil]); first | done | (simp only [hji14]; rfl) | rfl | (simp only [List.length_drop, List.length_take]; rfl)) ?_; (with_reducible refine (kotatsuref05_Bytes.calls (x4_1.length : Int) _ _ ((rd_T69 x4_1 (ji14)).f1) t252 _ ?side1 ?side2 A17.out).mono ?_); (case side1 => repeat (first | exact (by repeat (first | (with_reducible exact HR251_1.out) | (with_reducible refine Kd.C_alloc ?_ _) | (with_reducible refine Kd.C_drewN ?_ _) | (with_reducible refine Kd.C_drew ?_) | exact HR251_1.out)) | (with_reducible refine Kd.C_alloc ?_ _) | (with_reducible refine Kd.C_drewN ?_ _) | (with_reducible refine Kd.C_drew ?_))); (case side2 => exact HC251_1.out); rintro e w' ⟨rfl, ⟨nd, rfl⟩⟩; refine ⟨_, rfl, ?_⟩))
                     (try (rw [drewN_self wc]; generalize hq_ : World.drewN wc _ = wc; have n0_ : Aside0 (Kd.V (Kd.int .u8) 5 wc w.heap.size (fun k_ => (P0_ k_ ∨ w.heap.size ≤ k_) ∧ some k_ ≠ (.slice (some ad251) x4_1.length co37 : Value).ownBlock) (.slice A251_1 ((rd_T69 x4_1 (ji14)).f1).length c251_1) ((rd_T69 x4_1 (ji14)).f1)) := ⟨by rw [← hq_]; exact (by (with_reducible repeat (first | apply Kd.V_alloc | apply Kd.V_drewN | apply Kd.V_drew)); exact HL251_1.out)⟩; have n1_ : Aside0 (Kd.V (Kd.int .u8) 5 wc w.heap.size (fun k_ => (P0_ k_ ∨ w.heap.size ≤ k_) ∧ some k_ ≠ (.slice (some ad251) x4_1.length co37 : Value).ownBlock) (.slice A0 l0.length c0) l0) := ⟨by rw [← hq_]; exact (by (with_reducible repeat (first | apply Kd.V_alloc | apply Kd.V_drewN | apply Kd.V_drew)); exact HO_0.out)⟩; have n2_ : Aside0 (Kd.N k69 69 wc w.heap.size (fun k_ => (P0_ k_ ∨ w.heap.size ≤ k_)) (.slice (some ad251) x4_1.length co37) x4_1) := ⟨by rw [← hq_]; exact (by (with_reducible repeat (first | apply Kd.N_alloc | apply Kd.N_drewN | apply Kd.N_drew)); exact HO_4.out)⟩; have n3_ : Aside0 (Below w.heap.size w wc) := ⟨by rw [← hq_]; exact (by repeat (first | (with_reducible first | exact HB.out | apply below_alloc | apply pw_below_drewN | apply below_drew1) | exact HB.out))⟩; have n4_ : Aside0 (Kd.C (Kd.int .u8) wc A251_1 ((rd_T69 x4_1 (ji14)).f1).length ((rd_T69 x4_1 (ji14)).f1)) := ⟨by rw [← hq_]; exact (by repeat (first | (with_reducible exact HR251_1.out) | (with_reducible refine Kd.C_alloc ?_ _) | (with_reducible refine Kd.C_drewN ?_ _) | (with_reducible refine Kd.C_drew ?_) | exact HR251_1.out))⟩; clear HL251_1 HO_0 HO_4 HB HR251_1 hq_; have HL251_1 := n0_; have HO_0 := n1_; have HO_4 := n2_; have HB := n3_; have HR251_1 := n4_; clear n0_ n1_ n2_ n3_ n4_))
                     have n0_ := Aside0.mk (Kd.V_drew HO_0.out)
                     have n1_ := Aside0.mk (Kd.N_drew HO_4.out)
                     have n2_ := Aside0.mk (Kd.V_drew HL251_1.out)
                     have n3_ := Aside0.mk (Kd.C_drew HR251_1.out)
                     have n4_ := Aside0.mk (below_drew1 HB.out)
                     clear HO_0
                     clear HO_4
                     clear HL251_1
                     clear HR251_1
                     clear HB
                     have HO_0 := n0_
                     have HO_4 := n1_
                     have HL251_1 := n2_
                     have HR251_1 := n3_
                     have HB := n4_
                     clear n0_ n1_ n2_ n3_ n4_
                     have q39 : ((wrap64 ((wrap64 (x5_1 + t252)) + 3)) : Int) ≤ ((l0.length : Int) : Int) := of_decide_eq_true (by first | (with_reducible assumption) | assumption)
                     obtain ⟨i039, hi039, _, hsz39, _⟩ := info_parts info5
                     have hroom39 : l0.length ≤ c0 := (Kd.V_reads' HO_0.out).2.1
                     have hC39 : Kd.F (Kd.int .u8) _ _ A0 l0.length l0 := (Kd.V_at (base := w.heap.size) HO_0.out).2.2
                     have ql39 : ((ji20) : Int) ≤ ((wrap64 ((wrap64 (x5_1 + t252)) + 3)) : Int) := of_decide_eq_true (by first | (with_reducible assumption) | assumption)
                     have q039 : (0 : Int) ≤ ((ji20) : Int) := of_decide_eq_true (by first | (with_reducible assumption) | assumption)
                     have hcut39 := cut_mid (P := Try.prog) 22 5 .i64 .i64 Try.underlying22 hi039 1 hsz39 A0 l0.length c0 (ji20) (wrap64 ((wrap64 (x5_1 + t252)) + 3)) q039 ql39 q39 hroom39
                     have hr39 := Kd.F_mid (lo := ((ji20) : Int).toNat) (hi := ((wrap64 ((wrap64 (x5_1 + t252)) + 3)) : Int).toNat) (c := c0) hC39 (by omega) (by omega) hroom39
                     obtain ⟨A39, hA39⟩ : ∃ A1, A1 = (if c0 = ((ji20) : Int).toNat then A0 else (A0 : Option Addr).map (·.add (((ji20) : Int).toNat * 1))) := ⟨_, rfl⟩
                     obtain ⟨c39, hc39⟩ : ∃ c1, c1 = c0 - ((ji20) : Int).toNat := ⟨_, rfl⟩
                     have hy39 : y253.length = ((wrap64 ((wrap64 (x5_1 + t252)) + 3)) : Int).toNat - ((ji20) : Int).toNat := (by rw [Ny253.out, List.length_drop, List.length_take] <;> omega)
                     rw [show ((l0).take ((wrap64 ((wrap64 (x5_1 + t252)) + 3)) : Int).toNat).drop ((ji20) : Int).toNat = y253 from Ny253.out.symm] at hr39
                     replace hr39 : Kd.F (Kd.int .u8) _ _ A39 y253.length y253 := (by rw [hA39]; exact hr39)
                     rw [← hy39, ← hA39, ← hc39] at hcut39
                     have HO257 := Aside0.mk (show Kd.V (Kd.int .u8) 5 _ w.heap.size _ (.slice A39 y253.length c39) y253 from Kd.V_mk (by rw [hy39, hc39]; exact Nat.sub_le_sub_right (Nat.le_trans (by omega) hroom39) _) hr39)
                     have HC257 := Aside0.mk (show y253.length ≤ c39 from by rw [hy39, hc39]; exact Nat.sub_le_sub_right (Nat.le_trans (by omega) hroom39) _)
                     clear hr39 hC39 hroom39 hi039 hsz39 hc39
                     have KY39 := Aside0.mk hy39
                     have KA39 := Aside0.mk hA39
                     clear hy39 hA39
                     replace q39 := eq_true q39
                     have q40 : ((ji20) : Int) ≤ ((l0.length : Int) : Int) := of_decide_eq_true (by first | (with_reducible assumption) | assumption)
                     obtain ⟨i040, hi040, _, hsz40, _⟩ := info_parts info5
                     have hroom40 : l0.length ≤ c0 := (Kd.V_reads' HO_0.out).2.1
                     have hC40 : Kd.F (Kd.int .u8) _ _ A0 l0.length l0 := (Kd.V_at (base := w.heap.size) HO_0.out).2.2
                     have ql40 : (x5_1 : Int) ≤ ((ji20) : Int) := of_decide_eq_true (by first | (with_reducible assumption) | assumption)
                     have q040 : (0 : Int) ≤ (x5_1 : Int) := of_decide_eq_true (by first | (with_reducible assumption) | assumption)
                     have hcut40 := cut_mid (P := Try.prog) 22 5 .i64 .i64 Try.underlying22 hi040 1 hsz40 A0 l0.length c0 x5_1 (ji20) q040 ql40 q40 hroom40
                     have hr40 := Kd.F_mid (lo := (x5_1 : Int).toNat) (hi := ((ji20) : Int).toNat) (c := c0) hC40 (by omega) (by omega) hroom40
                     obtain ⟨A40, hA40⟩ : ∃ A1, A1 = (if c0 = (x5_1 : Int).toNat then A0 else (A0 : Option Addr).map (·.add ((x5_1 : Int).toNat * 1))) := ⟨_, rfl⟩
                     obtain ⟨c40, hc40⟩ : ∃ c1, c1 = c0 - (x5_1 : Int).toNat := ⟨_, rfl⟩
                     have hy40 : y259.length = ((ji20) : Int).toNat - (x5_1 : Int).toNat := (by rw [Ny259.out, List.length_drop, List.length_take] <;> omega)
                     rw [show ((l0).take ((ji20) : Int).toNat).drop (x5_1 : Int).toNat = y259 from Ny259.out.symm] at hr40
                     replace hr40 : Kd.F (Kd.int .u8) _ _ A40 y259.length y259 := (by rw [hA40]; exact hr40)
                     rw [← hy40, ← hA40, ← hc40] at hcut40
                     have HO263 := Aside0.mk (show Kd.V (Kd.int .u8) 5 _ w.heap.size _ (.slice A40 y259.length c40) y259 from Kd.V_mk (by rw [hy40, hc40]; exact Nat.sub_le_sub_right (Nat.le_trans (by omega) hroom40) _) hr40)
                     have HC263 := Aside0.mk (show y259.length ≤ c40 from by rw [hy40, hc40]; exact Nat.sub_le_sub_right (Nat.le_trans (by omega) hroom40) _)
                     clear hr40 hC40 hroom40 hi040 hsz40 hc40
                     have KY40 := Aside0.mk hy40
                     have KA40 := Aside0.mk hA40
                     clear hy40 hA40
                     replace q40 := eq_true q40
                     refine start_ (n := 21) (S := fun w' => True) (ds := []) #[false, false, false, false, false, false, false, false, false, false, false, false, false, false, false, false, false, false, false, false, false] (by kernel_rfl) rfl rfl trivial (fun hHeld => ?_); refine with_tabW kotatsuref06_Unwrap.tab10 kotatsuref06_Unwrap.bits10 (fun HT_ HW_ => ?_)
                     generalize wc.drew = w38 at HO_0 HO_4 HL251_1 HR251_1 HB HO257 HO263 hHeld ⊢
                     refine pure_ (i := 0) (N := some 48) (v := ?_) (a' := ?_) #[true, false, false, false, false, false, false, false, false, false, false, false, false, false, false, false, false, false, false, false, false] rfl rfl (any_of HT_.out (by kernel_rfl)) (fun _ _ _ h => h) (Or.inl ⟨by rfl, ?_⟩) ?_ ?_
                     rotate_left
                     ·intro w'
                      go_simp
                      with_reducible rfl
                     rotate_left
                     ·simp only [Act.put, List.setIfInBounds_toArray, List.set_cons_zero, List.set_cons_succ, i64_w, i32_w]
                      rfl
                     refine pure_ (i := 1) (N := some 49) (v := ?_) (a' := ?_) #[true, true, false, false, false, false, false, false, false, false, false, false, false, false, false, false, false, false, false, false, false] rfl rfl (any_of HT_.out (by kernel_rfl)) (fun _ _ _ h => h) (Or.inl ⟨by rfl, ?_⟩) ?_ ?_
                     rotate_left
                     ·intro w'
                      go_simp
                      with_reducible rfl
                     rotate_left
                     ·simp only [Act.put, List.setIfInBounds_toArray, List.set_cons_zero, List.set_cons_succ, i64_w, i32_w]
                      rfl
                     refine pure_ (i := 2) (N := some 50) (v := ?_) (a' := ?_) #[true, true, true, false, false, false, false, false, false, false, false, false, false, false, false, false, false, false, false, false, false] rfl rfl (any_of HT_.out (by kernel_rfl)) (fun _ _ _ h => h) (Or.inl ⟨by rfl, ?_⟩) ?_ ?_
                     rotate_left
                     ·intro w'
                      go_simp
                      with_reducible rfl
                     rotate_left
                     ·simp only [Act.put, List.setIfInBounds_toArray, List.set_cons_zero, List.set_cons_succ, i64_w, i32_w]
                      rfl
                     refine pure_ (i := 3) (N := some 51) (v := ?_) (a' := ?_) #[true, true, true, true, false, false, false, false, false, false, false, false, false, false, false, false, false, false, false, false, false] rfl rfl (any_of HT_.out (by kernel_rfl)) (fun _ _ _ h => h) (Or.inl ⟨by rfl, ?_⟩) ?_ ?_
                     rotate_left
                     ·intro w'
                      go_simp
                      with_reducible rfl
                     rotate_left
                     ·simp only [Act.put, List.setIfInBounds_toArray, List.set_cons_zero, List.set_cons_succ, i64_w, i32_w]
                      rfl
                     refine pure_ (i := 4) (N := some 52) (v := ?_) (a' := ?_) #[true, true, true, true, true, false, false, false, false, false, false, false, false, false, false, false, false, false, false, false, false] rfl rfl (any_of HT_.out (by kernel_rfl)) (fun _ _ _ h => h) (Or.inl ⟨by rfl, ?_⟩) ?_ ?_
                     rotate_left
                     ·intro w'
                      go_simp
                      with_reducible rfl
                     rotate_left
                     ·simp only [Act.put, List.setIfInBounds_toArray, List.set_cons_zero, List.set_cons_succ, i64_w, i32_w]
                      rfl
                     refine pure_ (i := 5) (N := some 53) (v := ?_) (a' := ?_) #[true, true, true, true, true, true, false, false, false, false, false, false, false, false, false, false, false, false, false, false, false] rfl rfl (any_of HT_.out (by kernel_rfl)) (fun _ _ _ h => h) (Or.inl ⟨by rfl, ?_⟩) ?_ ?_
                     rotate_left
                     ·intro w'
                      go_simp
                      with_reducible rfl
                     rotate_left
                     ·simp only [Act.put, List.setIfInBounds_toArray, List.set_cons_zero, List.set_cons_succ, i64_w, i32_w]
                      rfl
                     refine pure_ (i := 6) (N := some 54) (v := ?_) (a' := ?_) #[true, true, true, true, true, true, true, false, false, false, false, false, false, false, false, false, false, false, false, false, false] rfl rfl (any_of HT_.out (by kernel_rfl)) (fun _ _ _ h => h) (Or.inl ⟨by rfl, ?_⟩) ?_ ?_
                     rotate_left
                     ·intro w'
                      go_simp
                      with_reducible rfl
                     rotate_left
                     ·simp only [Act.put, List.setIfInBounds_toArray, List.set_cons_zero, List.set_cons_succ, i64_w, i32_w]
                      rfl
                     refine pure_ (i := 7) (N := some 55) (v := ?_) (a' := ?_) #[true, true, true, true, true, true, true, true, false, false, false, false, false, false, false, false, false, false, false, false, false] rfl rfl (any_of HT_.out (by kernel_rfl)) (fun _ _ _ h => h) (Or.inl ⟨by rfl, ?_⟩) ?_ ?_
                     rotate_left
                     ·intro w'
                      go_simp
                      with_reducible rfl
                     rotate_left
                     ·simp only [Act.put, List.setIfInBounds_toArray, List.set_cons_zero, List.set_cons_succ, i64_w, i32_w]
                      rfl
                     refine pure_ (i := 8) (N := some 56) (v := ?_) (a' := ?_) #[true, true, true, true, true, true, true, true, true, false, false, false, false, false, false, false, false, false, false, false, false] rfl rfl (any_of HT_.out (by kernel_rfl)) (fun _ _ _ h => h) (Or.inl ⟨by rfl, ?_⟩) ?_ ?_
                     rotate_left
                     ·intro w'
                      go_simp
                      with_reducible rfl
                     rotate_left
                     ·simp only [Act.put, List.setIfInBounds_toArray, List.set_cons_zero, List.set_cons_succ, i64_w, i32_w]
                      rfl
                     refine pure_ (i := 9) (N := some 57) (v := ?_) (a' := ?_) #[true, true, true, true, true, true, true, true, true, true, false, false, false, false, false, false, false, false, false, false, false] rfl rfl (any_of HT_.out (by kernel_rfl)) (fun _ _ _ h => h) (Or.inl ⟨by rfl, ?_⟩) ?_ ?_
                     rotate_left
                     ·intro w'
                      go_simp
                      with_reducible rfl
                     rotate_left
                     ·simp only [Act.put, List.setIfInBounds_toArray, List.set_cons_zero, List.set_cons_succ, i64_w, i32_w]
                      rfl
                     refine pure_ (i := 11) (N := some 59) (v := ?_) (a' := ?_) #[true, true, true, true, true, true, true, true, true, true, false, true, false, false, false, false, false, false, false, false, false] rfl rfl (any_of HT_.out (by kernel_rfl)) (fun _ _ _ h => h) (Or.inl ⟨by rfl, ?_⟩) ?_ ?_
                     rotate_left
                     ·intro w'
                      go_simp
                      with_reducible rfl
                     rotate_left
                     ·simp only [Act.put, List.setIfInBounds_toArray, List.set_cons_zero, List.set_cons_succ, i64_w, i32_w]
                      rfl
                     refine pure_ (i := 12) (N := some 60) (v := ?_) (a' := ?_) #[true, true, true, true, true, true, true, true, true, true, false, true, true, false, false, false, false, false, false, false, false] rfl rfl (any_of HT_.out (by kernel_rfl)) (fun _ _ _ h => h) (Or.inl ⟨by rfl, ?_⟩) ?_ ?_
                     rotate_left
                     ·intro w'
                      go_simp
                      with_reducible rfl
                     rotate_left
                     ·simp only [Act.put, List.setIfInBounds_toArray, List.set_cons_zero, List.set_cons_succ, i64_w, i32_w]
                      rfl
                     refine pure_ (i := 13) (N := some 61) (v := ?_) (a' := ?_) #[true, true, true, true, true, true, true, true, true, true, false, true, true, true, false, false, false, false, false, false, false] rfl rfl (any_of HT_.out (by kernel_rfl)) (fun _ _ _ h => h) (Or.inl ⟨by rfl, ?_⟩) ?_ ?_
                     rotate_left
                     ·intro w'
                      go_simp
                      with_reducible rfl
                     rotate_left
                     ·simp only [Act.put, List.setIfInBounds_toArray, List.set_cons_zero, List.set_cons_succ, i64_w, i32_w]
                      rfl
                     refine pure_ (i := 14) (N := some 62) (v := ?_) (a' := ?_) #[true, true, true, true, true, true, true, true, true, true, false, true, true, true, true, false, false, false, false, false, false] rfl rfl (any_of HT_.out (by kernel_rfl)) (fun _ _ _ h => h) (Or.inl ⟨by rfl, ?_⟩) ?_ ?_
                     rotate_left
                     ·intro w'
                      go_simp
                      with_reducible rfl
                     rotate_left
                     ·simp only [Act.put, List.setIfInBounds_toArray, List.set_cons_zero, List.set_cons_succ, i64_w, i32_w]
                      rfl
                     refine pure_ (i := 15) (N := some 63) (v := ?_) (a' := ?_) #[true, true, true, true, true, true, true, true, true, true, false, true, true, true, true, true, false, false, false, false, false] rfl rfl (any_of HT_.out (by kernel_rfl)) (fun _ _ _ h => h) (Or.inl ⟨by rfl, ?_⟩) ?_ ?_
                     rotate_left
                     ·intro w'
                      go_simp
                      with_reducible rfl
                     rotate_left
                     ·simp only [Act.put, List.setIfInBounds_toArray, List.set_cons_zero, List.set_cons_succ, i64_w, i32_w]
                      rfl
                     refine pure_ (i := 16) (N := some 64) (v := ?_) (a' := ?_) #[true, true, true, true, true, true, true, true, true, true, false, true, true, true, true, true, true, false, false, false, false] rfl rfl (any_of HT_.out (by kernel_rfl)) (fun _ _ _ h => h) (Or.inl ⟨by rfl, ?_⟩) ?_ ?_
                     rotate_left
                     ·intro w'
                      go_simp
                      with_reducible rfl
                     rotate_left
                     ·simp only [Act.put, List.setIfInBounds_toArray, List.set_cons_zero, List.set_cons_succ, i64_w, i32_w]
                      rfl
                     refine pure_ (i := 17) (N := some 65) (v := ?_) (a' := ?_) #[true, true, true, true, true, true, true, true, true, true, false, true, true, true, true, true, true, true, false, false, false] rfl rfl (any_of HT_.out (by kernel_rfl)) (fun _ _ _ h => h) (Or.inl ⟨by rfl, ?_⟩) ?_ ?_
                     rotate_left
                     ·intro w'
                      go_simp
                      with_reducible rfl
                     rotate_left
                     ·simp only [Act.put, List.setIfInBounds_toArray, List.set_cons_zero, List.set_cons_succ, i64_w, i32_w]
                      rfl
                     refine one_ (i := 10) (N := some 58) #[true, true, true, true, true, true, true, true, true, true, true, true, true, true, true, true, true, true, false, false, false] rfl rfl (one_of HT_.out (by kernel_rfl)) (by decide) (fun K hK => ?_)
                     refine goes_ Try.func44 (by kernel_rfl) rfl #[.slice A39 y253.length c39] (by rfl) rfl rfl (by (try simp only [List.map_toArray, List.map_cons, List.map_nil]); first | done | rfl | (simp only [List.length_drop, List.length_take]; rfl)) ?_
                     with_reducible refine (kotatsuref02_Take.calls kj1 _ _ y253 t258 _ ?side1 ?side2 A24.out).mono ?_
                     (case side1 => repeat (first | exact (Kd.V_reads' HO257.out).2.2 | (with_reducible refine Kd.C_alloc ?_ _) | (with_reducible refine Kd.C_drewN ?_ _) | (with_reducible refine Kd.C_drew ?_)))
                     (case side2 => exact (Kd.V_reads' HO257.out).2.1)
                     rintro e w' ⟨rfl, ⟨nd, rfl⟩⟩
                     refine ⟨_, rfl, ?_⟩
                     refine hK.out _ _ trivial (fun hHeld => ?_)
                     clear hK K
                     refine norm_ (a' := ?_) ?_ ?_
                     rotate_left
                     ·show Act.put _ (some 58) _ = _
                      simp only [Act.put, List.setIfInBounds_toArray, List.set_cons_zero, List.set_cons_succ, i64_w, i32_w]
                      rfl
                     refine one_ (i := 18) (N := some 66) #[true, true, true, true, true, true, true, true, true, true, true, true, true, true, true, true, true, true, true, false, false] rfl rfl (one_of HT_.out (by kernel_rfl)) (by decide) (fun K hK => ?_)
                     refine goes_ Try.func37 (by kernel_rfl) rfl #[.slice A40 y259.length c40] (by rfl) rfl rfl (by (try simp only [List.map_toArray, List.map_cons, List.map_nil]); first | done | rfl | (simp only [List.length_drop, List.length_take]; rfl)) ?_
                     with_reducible refine (kotatsuref02_Short.calls kj1 (fun k_ => ((P0_ k_ ∨ w.heap.size ≤ k_) ∧ some k_ ≠ (.slice (some ad251) x4_1.length co37 : Value).ownBlock)) _ _ y259 t264 _ ?side1 A28.out).mono ?_
                     (case side1 => exact HO263.out)
                     rintro e w41 ⟨rfl, hb⟩
                     refine ⟨_, rfl, ?_⟩
                     have n0_ := Aside0.mk (Kd.V_below (by (with_reducible repeat (first | apply Kd.V_alloc | apply Kd.V_drewN | apply Kd.V_drew)); exact HO_0.out) hb)
                     have n1_ := Aside0.mk (Kd.N_below (by (with_reducible repeat (first | apply Kd.N_alloc | apply Kd.N_drewN | apply Kd.N_drew)); exact HO_4.out) hb)
                     have n2_ := Aside0.mk (Kd.V_below (by (with_reducible repeat (first | apply Kd.V_alloc | apply Kd.V_drewN | apply Kd.V_drew)); exact HL251_1.out) hb)
                     have n3_ := Aside0.mk (Kd.V_below (by (with_reducible repeat (first | apply Kd.V_alloc | apply Kd.V_drewN | apply Kd.V_drew)); exact HO257.out) hb)
                     have n4_ := Aside0.mk (Kd.V_below (by (with_reducible repeat (first | apply Kd.V_alloc | apply Kd.V_drewN | apply Kd.V_drew)); exact HO263.out) hb)
                     have n5_ := Aside0.mk (Kd.C_below (by repeat (first | (with_reducible exact HR251_1.out) | (with_reducible refine Kd.C_alloc ?_ _) | (with_reducible refine Kd.C_drewN ?_ _) | (with_reducible refine Kd.C_drew ?_) | exact HR251_1.out)) hb)
                     have n6_ := Aside0.mk (below_step (by repeat (first | (with_reducible first | exact HB.out | apply below_alloc | apply pw_below_drewN | apply below_drew1) | exact HB.out)) hb)
                     clear HO_0
                     clear HO_4
                     clear HL251_1
                     clear HO257
                     clear HO263
                     clear HR251_1
                     clear HB
                     have HO_0 := n0_
                     have HO_4 := n1_
                     have HL251_1 := n2_
                     have HO257 := n3_
                     have HO263 := n4_
                     have HR251_1 := n5_
                     have HB := n6_
                     clear n0_ n1_ n2_ n3_ n4_ n5_ n6_
                     (try clear hb)
                     (try clear hb2)
                     (try clear hk)
                     (try clear hi)
                     refine hK.out _ _ trivial (fun hHeld => ?_)
                     clear hK K
                     refine norm_ (a' := ?_) ?_ ?_
                     rotate_left
                     ·show Act.put _ (some 66) _ = _
                      simp only [Act.put, List.setIfInBounds_toArray, List.set_cons_zero, List.set_cons_succ, i64_w, i32_w]
                      rfl
                     refine pure_ (i := 19) (N := some 67) (v := ?_) (a' := ?_) #[true, true, true, true, true, true, true, true, true, true, true, true, true, true, true, true, true, true, true, true, false] rfl rfl (any_of HT_.out (by kernel_rfl)) (fun _ _ _ h => h) (Or.inl ⟨by rfl, ?_⟩) ?_ ?_
                     rotate_left
                     ·intro w'
                      go_simp
                      with_reducible rfl
                     rotate_left
                     ·simp only [Act.put, List.setIfInBounds_toArray, List.set_cons_zero, List.set_cons_succ, i64_w, i32_w]
                      rfl
                     refine pure_ (i := 20) (N := some 68) (v := ?_) (a' := ?_) #[true, true, true, true, true, true, true, true, true, true, true, true, true, true, true, true, true, true, true, true, true] rfl rfl (any_of HT_.out (by kernel_rfl)) (fun _ _ _ h => h) (Or.inl ⟨by rfl, ?_⟩) ?_ ?_
                     rotate_left
                     ·intro w'
                      go_simp
                      with_reducible rfl
                     rotate_left
                     ·simp only [Act.put, List.setIfInBounds_toArray, List.set_cons_zero, List.set_cons_succ, i64_w, i32_w]
                      rfl
                     refine done_ (done_of HT_.out (by kernel_rfl)) ?_
                     try go_wp2
                     have n0_ := Aside0.mk (Kd.V_drew HO_0.out)
                     have n1_ := Aside0.mk (Kd.N_drew HO_4.out)
                     have n2_ := Aside0.mk (Kd.V_drew HL251_1.out)
                     have n3_ := Aside0.mk (Kd.V_drew HO257.out)
                     have n4_ := Aside0.mk (Kd.V_drew HO263.out)
                     have n5_ := Aside0.mk (Kd.C_drew HR251_1.out)
                     have n6_ := Aside0.mk (below_drew1 HB.out)
                     clear HO_0
                     clear HO_4
                     clear HL251_1
                     clear HO257
                     clear HO263
                     clear HR251_1
                     clear HB
                     have HO_0 := n0_
                     have HO_4 := n1_
                     have HL251_1 := n2_
                     have HO257 := n3_
                     have HO263 := n4_
                     have HR251_1 := n5_
                     have HB := n6_
                     clear n0_ n1_ n2_ n3_ n4_ n5_ n6_
                     have p265 : 0 ≤ (x5_1 : Int) := of_decide_eq_true (by first | (with_reducible assumption) | assumption)
                     have q265 : x5_1 < (l0.length : Int) := of_decide_eq_true (by first | (with_reducible assumption) | assumption)
                     obtain ⟨ad265, e265, hx265_0⟩ := Kd.at_int (Kd.V_reads' HO_0.out).2.2 x5_1 p265 q265
                     cases e265
                     replace p265 := eq_true p265
                     replace q265 := eq_true q265
                     have q43 : ((ji20) : Int) ≤ ((l0.length : Int) : Int) := of_decide_eq_true (by first | (with_reducible assumption) | assumption)
                     obtain ⟨i043, hi043, _, hsz43, _⟩ := info_parts info5
                     have hroom43 : l0.length ≤ c0 := (Kd.V_reads' HO_0.out).2.1
                     have hC43 : Kd.F (Kd.int .u8) _ _ (some ad265) l0.length l0 := (Kd.V_at (base := w.heap.size) HO_0.out).2.2
                     have ql43 : ((ji31) : Int) ≤ ((ji20) : Int) := of_decide_eq_true (by first | (with_reducible assumption) | assumption)
                     have q043 : (0 : Int) ≤ ((ji31) : Int) := of_decide_eq_true (by first | (with_reducible assumption) | assumption)
                     have hcut43 := cut_mid (P := Try.prog) 22 5 .i64 .i64 Try.underlying22 hi043 1 hsz43 (some ad265) l0.length c0 (ji31) (ji20) q043 ql43 q43 hroom43
                     have hr43 := Kd.F_mid (lo := ((ji31) : Int).toNat) (hi := ((ji20) : Int).toNat) (c := c0) hC43 (by omega) (by omega) hroom43
                     obtain ⟨A43, hA43⟩ : ∃ A1, A1 = (if c0 = ((ji31) : Int).toNat then (some ad265) else ((some ad265) : Option Addr).map (·.add (((ji31) : Int).toNat * 1))) := ⟨_, rfl⟩
                     obtain ⟨c43, hc43⟩ : ∃ c1, c1 = c0 - ((ji31) : Int).toNat := ⟨_, rfl⟩
                     have hy43 : y266.length = ((ji20) : Int).toNat - ((ji31) : Int).toNat := (by rw [Ny266.out, List.length_drop, List.length_take] <;> omega)
                     rw [show ((l0).take ((ji20) : Int).toNat).drop ((ji31) : Int).toNat = y266 from Ny266.out.symm] at hr43
                     replace hr43 : Kd.F (Kd.int .u8) _ _ A43 y266.length y266 := (by rw [hA43]; exact hr43)
                     rw [← hy43, ← hA43, ← hc43] at hcut43
                     have HO270 := Aside0.mk (show Kd.V (Kd.int .u8) 5 _ w.heap.size _ (.slice A43 y266.length c43) y266 from Kd.V_mk (by rw [hy43, hc43]; exact Nat.sub_le_sub_right (Nat.le_trans (by omega) hroom43) _) hr43)
                     have HC270 := Aside0.mk (show y266.length ≤ c43 from by rw [hy43, hc43]; exact Nat.sub_le_sub_right (Nat.le_trans (by omega) hroom43) _)
                     clear hr43 hC43 hroom43 hi043 hsz43 hc43
                     have KY43 := Aside0.mk hy43
                     have KA43 := Aside0.mk hA43
                     clear hy43 hA43
                     replace q43 := eq_true q43
                     refine start_ (n := 19) (S := fun w' => w'.cell? (ad265.add (x5_1).toNat) = some (.int .u8 (rd l0 x5_1))) (ds := [16, 17]) #[false, false, false, false, false, false, false, false, false, false, false, false, false, false, false, false, false, false, false] (by kernel_rfl) rfl rfl (hx265_0) (fun hHeld => ?_); refine with_tabW kotatsuref06_Unwrap.tab12 kotatsuref06_Unwrap.bits12 (fun HT_ HW_ => ?_)
                     generalize w41.drew = w42 at HO_0 HO_4 HL251_1 HO257 HO263 HR251_1 HB HO270 hx265_0 hHeld ⊢
                     refine pure_ (i := 0) (N := some 69) (v := ?_) (a' := ?_) #[true, false, false, false, false, false, false, false, false, false, false, false, false, false, false, false, false, false, false] rfl rfl (any_of HT_.out (by kernel_rfl)) (fun _ _ _ h => h) (Or.inl ⟨by rfl, ?_⟩) ?_ ?_
                     rotate_left
                     ·intro w'
                      go_simp
                      with_reducible rfl
                     rotate_left
                     ·simp only [Act.put, List.setIfInBounds_toArray, List.set_cons_zero, List.set_cons_succ, i64_w, i32_w]
                      rfl
                     refine pure_ (i := 1) (N := some 70) (v := ?_) (a' := ?_) #[true, true, false, false, false, false, false, false, false, false, false, false, false, false, false, false, false, false, false] rfl rfl (any_of HT_.out (by kernel_rfl)) (fun _ _ _ h => h) (Or.inl ⟨by rfl, ?_⟩) ?_ ?_
                     rotate_left
                     ·intro w'
                      go_simp
                      with_reducible rfl
                     rotate_left
                     ·simp only [Act.put, List.setIfInBounds_toArray, List.set_cons_zero, List.set_cons_succ, i64_w, i32_w]
                      rfl
                     refine pure_ (i := 2) (N := some 71) (v := ?_) (a' := ?_) #[true, true, true, false, false, false, false, false, false, false, false, false, false, false, false, false, false, false, false] rfl rfl (any_of HT_.out (by kernel_rfl)) (fun _ _ _ h => h) (Or.inl ⟨by rfl, ?_⟩) ?_ ?_
                     rotate_left
                     ·intro w'
                      go_simp
                      with_reducible rfl
                     rotate_left
                     ·simp only [Act.put, List.setIfInBounds_toArray, List.set_cons_zero, List.set_cons_succ, i64_w, i32_w]
                      rfl
                     refine pure_ (i := 3) (N := some 72) (v := ?_) (a' := ?_) #[true, true, true, true, false, false, false, false, false, false, false, false, false, false, false, false, false, false, false] rfl rfl (any_of HT_.out (by kernel_rfl)) (fun _ _ _ h => h) (Or.inl ⟨by rfl, ?_⟩) ?_ ?_
                     rotate_left
                     ·intro w'
                      go_simp
                      with_reducible rfl
                     rotate_left
                     ·simp only [Act.put, List.setIfInBounds_toArray, List.set_cons_zero, List.set_cons_succ, i64_w, i32_w]
                      rfl
                     refine pure_ (i := 5) (N := some 74) (v := ?_) (a' := ?_) #[true, true, true, true, false, true, false, false, false, false, false, false, false, false, false, false, false, false, false] rfl rfl (any_of HT_.out (by kernel_rfl)) (fun _ _ _ h => h) (Or.inl ⟨by rfl, ?_⟩) ?_ ?_
                     rotate_left
                     ·intro w'
                      go_simp
                      with_reducible rfl
                     rotate_left
                     ·simp only [Act.put, List.setIfInBounds_toArray, List.set_cons_zero, List.set_cons_succ, i64_w, i32_w]
                      rfl
                     refine pure_ (i := 6) (N := some 75) (v := ?_) (a' := ?_) #[true, true, true, true, false, true, true, false, false, false, false, false, false, false, false, false, false, false, false] rfl rfl (any_of HT_.out (by kernel_rfl)) (fun _ _ _ h => h) (Or.inl ⟨by rfl, ?_⟩) ?_ ?_
                     rotate_left
                     ·intro w'
                      go_simp
                      with_reducible rfl
                     rotate_left
                     ·simp only [Act.put, List.setIfInBounds_toArray, List.set_cons_zero, List.set_cons_succ, i64_w, i32_w]
                      rfl
                     refine pure_ (i := 7) (N := some 76) (v := ?_) (a' := ?_) #[true, true, true, true, false, true, true, true, false, false, false, false, false, false, false, false, false, false, false] rfl rfl (any_of HT_.out (by kernel_rfl)) (fun _ _ _ h => h) (Or.inl ⟨by rfl, ?_⟩) ?_ ?_
                     rotate_left
                     ·intro w'
                      go_simp
                      with_reducible rfl
                     rotate_left
                     ·simp only [Act.put, List.setIfInBounds_toArray, List.set_cons_zero, List.set_cons_succ, i64_w, i32_w]
                      rfl
                     refine pure_ (i := 8) (N := some 77) (v := ?_) (a' := ?_) #[true, true, true, true, false, true, true, true, true, false, false, false, false, false, false, false, false, false, false] rfl rfl (any_of HT_.out (by kernel_rfl)) (fun _ _ _ h => h) (Or.inl ⟨by rfl, ?_⟩) ?_ ?_
                     rotate_left
                     ·intro w'
                      go_simp
                      with_reducible rfl
                     rotate_left
                     ·simp only [Act.put, List.setIfInBounds_toArray, List.set_cons_zero, List.set_cons_succ, i64_w, i32_w]
                      rfl
                     refine pure_ (i := 9) (N := some 78) (v := ?_) (a' := ?_) #[true, true, true, true, false, true, true, true, true, true, false, false, false, false, false, false, false, false, false] rfl rfl (any_of HT_.out (by kernel_rfl)) (fun _ _ _ h => h) (Or.inl ⟨by rfl, ?_⟩) ?_ ?_
                     rotate_left
                     ·intro w'
                      go_simp
                      with_reducible rfl
                     rotate_left
                     ·simp only [Act.put, List.setIfInBounds_toArray, List.set_cons_zero, List.set_cons_succ, i64_w, i32_w]
                      rfl
                     refine pure_ (i := 10) (N := some 79) (v := ?_) (a' := ?_) #[true, true, true, true, false, true, true, true, true, true, true, false, false, false, false, false, false, false, false] rfl rfl (any_of HT_.out (by kernel_rfl)) (fun _ _ _ h => h) (Or.inl ⟨by rfl, ?_⟩) ?_ ?_
                     rotate_left
                     ·intro w'
                      go_simp
                      with_reducible rfl
                     rotate_left
                     ·simp only [Act.put, List.setIfInBounds_toArray, List.set_cons_zero, List.set_cons_succ, i64_w, i32_w]
                      rfl
                     refine pure_ (i := 11) (N := some 80) (v := ?_) (a' := ?_) #[true, true, true, true, false, true, true, true, true, true, true, true, false, false, false, false, false, false, false] rfl rfl (any_of HT_.out (by kernel_rfl)) (fun _ _ _ h => h) (Or.inl ⟨by rfl, ?_⟩) ?_ ?_
                     rotate_left
                     ·intro w'
                      go_simp
                      with_reducible rfl
                     rotate_left
                     ·simp only [Act.put, List.setIfInBounds_toArray, List.set_cons_zero, List.set_cons_succ, i64_w, i32_w]
                      rfl
                     refine pure_ (i := 12) (N := some 81) (v := ?_) (a' := ?_) #[true, true, true, true, false, true, true, true, true, true, true, true, true, false, false, false, false, false, false] rfl rfl (any_of HT_.out (by kernel_rfl)) (fun _ _ _ h => h) (Or.inl ⟨by rfl, ?_⟩) ?_ ?_
                     rotate_left
                     ·intro w'
                      go_simp
                      with_reducible rfl
                     rotate_left
                     ·simp only [Act.put, List.setIfInBounds_toArray, List.set_cons_zero, List.set_cons_succ, i64_w, i32_w]
                      rfl
                     refine take_ (i := 4) (N := some 73) (v := ?_) (a' := ?_) #[true, true, true, true, true, true, true, true, true, true, true, true, true, false, false, false, false, false, false] rfl rfl (take_ofW HT_.out HW_.out (by kernel_rfl)) (fun _ _ _ h => h) (Or.inl ⟨by rfl, ?_⟩) hHeld ?_ ?_
                     rotate_left
                     ·intro w' s0
                      go_simp
                      with_reducible rfl
                     rotate_left
                     ·simp only [Act.put, List.setIfInBounds_toArray, List.set_cons_zero, List.set_cons_succ, i64_w, i32_w]
                      rfl
                     refine one_ (i := 13) (N := some 82) #[true, true, true, true, true, true, true, true, true, true, true, true, true, true, false, false, false, false, false] rfl rfl (one_of HT_.out (by kernel_rfl)) (by decide) (fun K hK => ?_)
                     refine Kd.N_lit_step (Kd.slice 5 (Kd.int .u8)) _ 22 ?hg (N' := 82) ?hd (xs := ([y266] : List (List Int))) (inner := [.slice A43 y266.length c43]) (ok := (fun k_ => (P0_ k_ ∨ w.heap.size ≤ k_) ∧ some k_ ≠ (.slice (some ad251) x4_1.length co37 : Value).ownBlock)) (okp := (fun k_ => (P0_ k_ ∨ w.heap.size ≤ k_) ∧ some k_ ≠ (.slice (some ad251) x4_1.length co37 : Value).ownBlock)) ?hr ?hp (fun _ hk => hk) ((show ∀ k_, w42.heap.size ≤ k_ → (fun k_ => (P0_ k_ ∨ w.heap.size ≤ k_) ∧ some k_ ≠ (.slice (some ad251) x4_1.length co37 : Value).ownBlock) k_ from fun k_ hk => ⟨(.inr (Nat.le_trans (below_size (by repeat (first | (with_reducible first | exact HB.out | apply below_alloc | apply pw_below_drewN | apply below_drew1) | exact HB.out))) hk)), Kd.fresh' (Kd.N_lt (by (with_reducible repeat (first | apply Kd.N_alloc | apply Kd.N_drewN | apply Kd.N_drew)); exact HO_4.out)) k_ hk⟩) _ (Nat.le_refl _)) (Below.refl _ _) (Nat.le_refl _) (by simp) ?_; (case hd => rfl); (case hg => rfl); (case hr => first | (go_simp; done) | (go_simp; rfl)); (case hp => exact (Reps.one (show Kd.FK (Kd.slice 5 (Kd.int .u8)) _ _ y266 [.slice A43 y266.length c43] from (Kd.FK_slice_mk (Kd.V_reads' (e := 5) (base := w.heap.size) (Kd.V_mono (e := 5) (base := w.heap.size) (ok' := (fun k_ => (P0_ k_ ∨ w.heap.size ≤ k_) ∧ some k_ ≠ (.slice (some ad251) x4_1.length co37 : Value).ownBlock)) (HO270.out) (fun k_ hk => ⟨hk.1, hk.2⟩))).2.1 (Kd.V_F (e := 5) (base := w.heap.size) (Kd.V_mono (e := 5) (base := w.heap.size) (ok' := (fun k_ => (P0_ k_ ∨ w.heap.size ≤ k_) ∧ some k_ ≠ (.slice (some ad251) x4_1.length co37 : Value).ownBlock)) (HO270.out) (fun k_ hk => ⟨hk.1, hk.2⟩))))) (Reps.none _ _)))
                     intro v272 w44 ho45 hb hg_ hnew_
                     have HS0_ := (hb.cell (World.block_lt_of_cell? _ _ (hHeld))).trans (hHeld)
                     clear hg_ hnew_
                     (first | rw [← Ny271.out] at ho45 | (simp only [Int.reduceToNat] at ho45; rw [← Ny271.out] at ho45))
                     have n0_ := Aside0.mk (Kd.V_elder' (by (with_reducible repeat (first | apply Kd.V_alloc | apply Kd.V_drewN | apply Kd.V_drew)); exact HO_0.out) (Kd.N_base ho45) hb)
                     have n1_ := Aside0.mk (Kd.N_elder' (by (with_reducible repeat (first | apply Kd.N_alloc | apply Kd.N_drewN | apply Kd.N_drew)); exact HO_4.out) (Kd.N_base ho45) hb)
                     have n2_ := Aside0.mk (Kd.V_elder' (by (with_reducible repeat (first | apply Kd.V_alloc | apply Kd.V_drewN | apply Kd.V_drew)); exact HL251_1.out) (Kd.N_base ho45) hb)
                     have n3_ := Aside0.mk (Kd.V_elder' (by (with_reducible repeat (first | apply Kd.V_alloc | apply Kd.V_drewN | apply Kd.V_drew)); exact HO257.out) (Kd.N_base ho45) hb)
                     have n4_ := Aside0.mk (Kd.V_elder' (by (with_reducible repeat (first | apply Kd.V_alloc | apply Kd.V_drewN | apply Kd.V_drew)); exact HO263.out) (Kd.N_base ho45) hb)
                     have n5_ := Aside0.mk (Kd.V_elder' (by (with_reducible repeat (first | apply Kd.V_alloc | apply Kd.V_drewN | apply Kd.V_drew)); exact HO270.out) (Kd.N_base ho45) hb)
                     have n6_ := Aside0.mk (Kd.N_lower ho45 (below_size (by repeat (first | (with_reducible first | exact HB.out | apply below_alloc | apply pw_below_drewN | apply below_drew1) | exact HB.out))))
                     have n7_ := Aside0.mk (Kd.C_below (by repeat (first | (with_reducible exact HR251_1.out) | (with_reducible refine Kd.C_alloc ?_ _) | (with_reducible refine Kd.C_drewN ?_ _) | (with_reducible refine Kd.C_drew ?_) | exact HR251_1.out)) hb)
                     have n8_ := Aside0.mk (below_step (by repeat (first | (with_reducible first | exact HB.out | apply below_alloc | apply pw_below_drewN | apply below_drew1) | exact HB.out)) hb)
                     clear HO_0
                     clear HO_4
                     clear HL251_1
                     clear HO257
                     clear HO263
                     clear HO270
                     clear HR251_1
                     clear HB
                     have HO_0 := n0_
                     have HO_4 := n1_
                     have HL251_1 := n2_
                     have HO257 := n3_
                     have HO263 := n4_
                     have HO270 := n5_
                     have HO273 := n6_
                     have HR251_1 := n7_
                     have HB := n8_
                     clear n0_ n1_ n2_ n3_ n4_ n5_ n6_ n7_ n8_
                     clear hb ho45
                     obtain ⟨Ao46, co46, eo46⟩ := Kd.N_slice HO273.out
                     (first | subst eo46 | (injection eo46 with f1_ f2_ f3_; have f4_ := f1_.symm; have f5_ := f3_.symm; clear f1_ f2_ f3_; subst f4_; subst f5_))
                     refine hK.out _ _ (HS0_) (fun hHeld => ?_)
                     clear hK K
                     refine norm_ (a' := ?_) ?_ ?_
                     rotate_left
                     ·show Act.put _ (some 82) _ = _
                      simp only [Act.put, List.setIfInBounds_toArray, List.set_cons_zero, List.set_cons_succ, i64_w, i32_w]
                      rfl
                     refine one_ (i := 14) (N := some 83) #[true, true, true, true, true, true, true, true, true, true, true, true, true, true, true, false, false, false, false] rfl rfl (one_of HT_.out (by kernel_rfl)) (by decide) (fun K hK => ?_)
                     refine goes_ Try.func11 (by kernel_rfl) rfl #[.slice Ao46 y271.length co46] (by rfl) rfl rfl (by (try simp only [List.map_toArray, List.map_cons, List.map_nil]); first | done | rfl | (simp only [List.length_drop, List.length_take]; rfl)) ?_
                     with_reducible refine (kotatsuref01_Join.calls kj1 _ _ y271 t274 _ ?side1 ?side2 A35.out).mono ?_
                     (case side1 => repeat (first | exact (Kd.N_reads' HO273.out).2.2 | (with_reducible refine Kd.C_alloc ?_ _) | (with_reducible refine Kd.C_drewN ?_ _) | (with_reducible refine Kd.C_drew ?_)))
                     (case side2 => exact (Kd.N_reads' HO273.out).2.1)
                     rintro e w47 ⟨v275, rfl, ho0, hb⟩
                     have HS0_ := (hb.cell (World.block_lt_of_cell? _ _ (hHeld))).trans (hHeld)
                     refine ⟨_, rfl, ?_⟩
                     have n0_ := Aside0.mk (Kd.V_elder' (by (with_reducible repeat (first | apply Kd.V_alloc | apply Kd.V_drewN | apply Kd.V_drew)); exact HO_0.out) (Kd.R_base ho0) hb)
                     have n1_ := Aside0.mk (Kd.N_elder' (by (with_reducible repeat (first | apply Kd.N_alloc | apply Kd.N_drewN | apply Kd.N_drew)); exact HO_4.out) (Kd.R_base ho0) hb)
                     have n2_ := Aside0.mk (Kd.V_elder' (by (with_reducible repeat (first | apply Kd.V_alloc | apply Kd.V_drewN | apply Kd.V_drew)); exact HL251_1.out) (Kd.R_base ho0) hb)
                     have n3_ := Aside0.mk (Kd.V_elder' (by (with_reducible repeat (first | apply Kd.V_alloc | apply Kd.V_drewN | apply Kd.V_drew)); exact HO257.out) (Kd.R_base ho0) hb)
                     have n4_ := Aside0.mk (Kd.V_elder' (by (with_reducible repeat (first | apply Kd.V_alloc | apply Kd.V_drewN | apply Kd.V_drew)); exact HO263.out) (Kd.R_base ho0) hb)
                     have n5_ := Aside0.mk (Kd.V_elder' (by (with_reducible repeat (first | apply Kd.V_alloc | apply Kd.V_drewN | apply Kd.V_drew)); exact HO270.out) (Kd.R_base ho0) hb)
                     have n6_ := Aside0.mk (Kd.N_elder' (by (with_reducible repeat (first | apply Kd.N_alloc | apply Kd.N_drewN | apply Kd.N_drew)); exact HO273.out) (Kd.R_base ho0) hb)
                     have n7_ := Aside0.mk (Kd.R_lower (Kd.R_newM (M := fun k_ => (w.heap.size ≤ k_)) ho0 (below_size (by repeat (first | (with_reducible first | exact HB.out | apply below_alloc | apply pw_below_drewN | apply below_drew1) | exact HB.out))) (fun k_ h_ => h_)) (below_size (by repeat (first | (with_reducible first | exact HB.out | apply below_alloc | apply pw_below_drewN | apply below_drew1) | exact HB.out))))
                     have n8_ := Aside0.mk (Kd.C_below (by repeat (first | (with_reducible exact HR251_1.out) | (with_reducible refine Kd.C_alloc ?_ _) | (with_reducible refine Kd.C_drewN ?_ _) | (with_reducible refine Kd.C_drew ?_) | exact HR251_1.out)) hb)
                     have n9_ := Aside0.mk (below_step (by repeat (first | (with_reducible first | exact HB.out | apply below_alloc | apply pw_below_drewN | apply below_drew1) | exact HB.out)) hb)
                     clear HO_0
                     clear HO_4
                     clear HL251_1
                     clear HO257
                     clear HO263
                     clear HO270
                     clear HO273
                     clear HR251_1
                     clear HB
                     have HO_0 := n0_
                     have HO_4 := n1_
                     have HL251_1 := n2_
                     have HO257 := n3_
                     have HO263 := n4_
                     have HO270 := n5_
                     have HO273 := n6_
                     have HO276 := n7_
                     have HR251_1 := n8_
                     have HB := n9_
                     clear n0_ n1_ n2_ n3_ n4_ n5_ n6_ n7_ n8_ n9_
                     (try clear hb)
                     (try clear hb2)
                     (try clear hk)
                     (try clear hi)
                     (try clear ho0)
                     obtain ⟨Ao48, co48, eo48⟩ := Kd.R_slice HO276.out
                     (first | subst eo48 | (injection eo48 with f1_ f2_ f3_; have f4_ := f1_.symm; have f5_ := f3_.symm; clear f1_ f2_ f3_; subst f4_; subst f5_))
                     refine hK.out _ _ (HS0_) (fun hHeld => ?_)
                     clear hK K
                     refine norm_ (a' := ?_) ?_ ?_
                     rotate_left
                     ·show Act.put _ (some 83) _ = _
                      simp only [Act.put, List.setIfInBounds_toArray, List.set_cons_zero, List.set_cons_succ, i64_w, i32_w]
                      rfl
                     refine pure_ (i := 15) (N := some 84) (v := ?_) (a' := ?_) #[true, true, true, true, true, true, true, true, true, true, true, true, true, true, true, true, false, false, false] rfl rfl (any_of HT_.out (by kernel_rfl)) (fun _ _ _ h => h) (Or.inl ⟨by rfl, ?_⟩) ?_ ?_
                     rotate_left
                     ·intro w'
                      go_simp
                      with_reducible rfl
                     rotate_left
                     ·simp only [Act.put, List.setIfInBounds_toArray, List.set_cons_zero, List.set_cons_succ, i64_w, i32_w]
                      rfl
                     refine last_ (i := 16) (N := some 85) #[true, true, true, true, true, true, true, true, true, true, true, true, true, true, true, true, true, false, false] rfl rfl (one_of HT_.out (by kernel_rfl)) (by decide) (fun K hK => ?_)
                     refine value_ (w1 := ?_) (v := ?_) (by rfl) rfl ?_ ?_
                     rotate_left 2
                     ·go_simp
                      constructor
                      ·rfl
                      ·rfl
                     refine hK.out _ _ ?_
                     clear hK K
                     refine norm_ (a' := ?_) ?_ ?_
                     rotate_left
                     ·show Act.put _ (some 85) _ = _
                      simp only [Act.put, List.setIfInBounds_toArray, List.set_cons_zero, List.set_cons_succ, i64_w, i32_w]
                      rfl
                     refine last_ (i := 17) (N := some 86) #[true, true, true, true, true, true, true, true, true, true, true, true, true, true, true, true, true, true, false] rfl rfl (one_of HT_.out (by kernel_rfl)) (by decide) (fun K hK => ?_)
                     refine Kd.N_append_step k69 (w0 := w) w.heap.size (by rfl) (.tmp 69) (.tmp 85) 43 69 (.agg #[(.int .u8 0), (.slice none 0 0)]) 32 rfl Try.underlying43 info69 rfl (by decide) (by omega) (.slice (some ad251) x4_1.length co37) x4_1 (⟨rd l0 x5_1, t274⟩ : S69) [.int .u8 (rd l0 x5_1), .slice Ao48 t274.length co48] (fun k_ => (P0_ k_ ∨ w.heap.size ≤ k_) ∧ some k_ ≠ (.slice Ao46 y271.length co46 : Value).ownBlock) (fun k_ => ((fun k_ => (P0_ k_ ∨ w.heap.size ≤ k_) ∧ some k_ ≠ (.slice Ao46 y271.length co46 : Value).ownBlock)) k_ ∧ some k_ ≠ (.slice (some ad251) x4_1.length co37 : Value).ownBlock) rfl rfl ?aP (fun _ hk => hk) ?aF ?aO ?aB ?aS ?aL ?_
                     (case aP => exact (k69_mkF _ _ (⟨rd l0 x5_1, t274⟩ : S69) (Kd.R_reads' (Kd.R_mono (ok' := (fun k_ => ((fun k_ => (P0_ k_ ∨ w.heap.size ≤ k_) ∧ some k_ ≠ (.slice Ao46 y271.length co46 : Value).ownBlock)) k_ ∧ some k_ ≠ (.slice (some ad251) x4_1.length co37 : Value).ownBlock)) (Kd.R_apart' (Kd.R_apart' (HO276.out) (Kd.N_typed HO273.out) (by decide)) (Kd.N_typed HO_4.out) (by decide)) (fun k_ hk => ⟨⟨(.inr (hk.1.1.1)), hk.1.2⟩, hk.2⟩))).2.1 (Kd.R_F (Kd.R_mono (ok' := (fun k_ => ((fun k_ => (P0_ k_ ∨ w.heap.size ≤ k_) ∧ some k_ ≠ (.slice Ao46 y271.length co46 : Value).ownBlock)) k_ ∧ some k_ ≠ (.slice (some ad251) x4_1.length co37 : Value).ownBlock)) (Kd.R_apart' (Kd.R_apart' (HO276.out) (Kd.N_typed HO273.out) (by decide)) (Kd.N_typed HO_4.out) (by decide)) (fun k_ hk => ⟨⟨(.inr (hk.1.1.1)), hk.1.2⟩, hk.2⟩)))))
                     (case aB => exact (by repeat (first | (with_reducible first | exact HB.out | apply below_alloc | apply pw_below_drewN | apply below_drew1) | exact HB.out)))
                     (case aF => exact (fun k_ hk => ⟨(.inr (Nat.le_trans (below_size (by repeat (first | (with_reducible first | exact HB.out | apply below_alloc | apply pw_below_drewN | apply below_drew1) | exact HB.out))) hk)), Kd.fresh' (Kd.N_lt (by (with_reducible repeat (first | apply Kd.N_alloc | apply Kd.N_drewN | apply Kd.N_drew)); exact HO273.out)) k_ hk⟩))
                     (case aO => exact (by (with_reducible repeat (first | apply Kd.N_alloc | apply Kd.N_drewN | apply Kd.N_drew)); exact Kd.N_mono HO_4.out (fun _ hk => ⟨hk.1.1, hk.1.2⟩)))
                     (case aS => exact (below_size (by repeat (first | (with_reducible first | exact HB.out | apply below_alloc | apply pw_below_drewN | apply below_drew1) | exact HB.out))))
                     (case aL => have := LMc36.out; omega)
                     intro v278 w49 ho hb hg hat
                     rw [← Ny277.out] at ho
                     have n0_ := Aside0.mk (Kd.V_afterv (ok := (fun k_ => (P0_ k_ ∨ w.heap.size ≤ k_) ∧ some k_ ≠ (.slice Ao46 y271.length co46 : Value).ownBlock ∧ some k_ ≠ (.slice Ao48 t274.length co48 : Value).ownBlock)) (by (with_reducible repeat (first | apply Kd.V_alloc | apply Kd.V_drewN | apply Kd.V_drew)); exact Kd.V_mono HO_0.out (fun _ hk => ⟨⟨hk.1.1.1, ⟨hk.1.2, hk.2⟩⟩, hk.1.1.2⟩)) hg hat)
                     have n1_ := Aside0.mk (Kd.V_afterv (ok := (fun k_ => (P0_ k_ ∨ w.heap.size ≤ k_) ∧ some k_ ≠ (.slice Ao46 y271.length co46 : Value).ownBlock ∧ some k_ ≠ (.slice Ao48 t274.length co48 : Value).ownBlock)) (by (with_reducible repeat (first | apply Kd.V_alloc | apply Kd.V_drewN | apply Kd.V_drew)); exact Kd.V_mono HL251_1.out (fun _ hk => ⟨⟨hk.1.1.1, ⟨hk.1.2, hk.2⟩⟩, hk.1.1.2⟩)) hg hat)
                     have n2_ := Aside0.mk (Kd.V_afterv (ok := (fun k_ => (P0_ k_ ∨ w.heap.size ≤ k_) ∧ some k_ ≠ (.slice Ao46 y271.length co46 : Value).ownBlock ∧ some k_ ≠ (.slice Ao48 t274.length co48 : Value).ownBlock)) (by (with_reducible repeat (first | apply Kd.V_alloc | apply Kd.V_drewN | apply Kd.V_drew)); exact Kd.V_mono HO257.out (fun _ hk => ⟨⟨hk.1.1.1, ⟨hk.1.2, hk.2⟩⟩, hk.1.1.2⟩)) hg hat)
                     have n3_ := Aside0.mk (Kd.V_afterv (ok := (fun k_ => (P0_ k_ ∨ w.heap.size ≤ k_) ∧ some k_ ≠ (.slice Ao46 y271.length co46 : Value).ownBlock ∧ some k_ ≠ (.slice Ao48 t274.length co48 : Value).ownBlock)) (by (with_reducible repeat (first | apply Kd.V_alloc | apply Kd.V_drewN | apply Kd.V_drew)); exact Kd.V_mono HO263.out (fun _ hk => ⟨⟨hk.1.1.1, ⟨hk.1.2, hk.2⟩⟩, hk.1.1.2⟩)) hg hat)
                     have n4_ := Aside0.mk (Kd.V_afterv (ok := (fun k_ => (P0_ k_ ∨ w.heap.size ≤ k_) ∧ some k_ ≠ (.slice Ao46 y271.length co46 : Value).ownBlock ∧ some k_ ≠ (.slice Ao48 t274.length co48 : Value).ownBlock)) (by (with_reducible repeat (first | apply Kd.V_alloc | apply Kd.V_drewN | apply Kd.V_drew)); exact Kd.V_mono HO270.out (fun _ hk => ⟨⟨hk.1.1.1, ⟨hk.1.2, hk.2⟩⟩, hk.1.1.2⟩)) hg hat)
                     have n5_ := Aside0.mk (Kd.N_afterv (ok := (fun k_ => (P0_ k_ ∨ w.heap.size ≤ k_) ∧ some k_ ≠ (.slice Ao48 t274.length co48 : Value).ownBlock)) (by (with_reducible repeat (first | apply Kd.N_alloc | apply Kd.N_drewN | apply Kd.N_drew)); exact Kd.N_mono HO273.out (fun _ hk => ⟨⟨hk.1.1, hk.2⟩, hk.1.2⟩)) hg hat)
                     have n6_ := Aside0.mk (hb)
                     have n7_ := Aside0.mk (ho)
                     clear HO_0
                     clear HL251_1
                     clear HO257
                     clear HO263
                     clear HO270
                     clear HO273
                     clear HB
                     clear HO_4
                     clear HO276
                     have HO_0 := n0_
                     have HL251_1 := n1_
                     have HO257 := n2_
                     have HO263 := n3_
                     have HO270 := n4_
                     have HO273 := n5_
                     have HB := n6_
                     have HO279 := n7_
                     clear n0_ n1_ n2_ n3_ n4_ n5_ n6_ n7_
                     clear ho hb hg hat
                     refine hK.out _ _ ?_
                     clear hK K
                     refine norm_ (a' := ?_) ?_ ?_
                     rotate_left
                     ·show Act.put _ (some 86) _ = _
                      simp only [Act.put, List.setIfInBounds_toArray, List.set_cons_zero, List.set_cons_succ, i64_w, i32_w]
                      rfl
                     refine pure_ (i := 18) (N := some 4) (v := ?_) (a' := ?_) #[true, true, true, true, true, true, true, true, true, true, true, true, true, true, true, true, true, true, true] rfl rfl (any_of HT_.out (by kernel_rfl)) (fun _ _ _ h => h) (Or.inl ⟨by rfl, ?_⟩) ?_ ?_
                     rotate_left
                     ·intro w'
                      go_simp
                      with_reducible rfl
                     rotate_left
                     ·simp only [Act.put, List.setIfInBounds_toArray, List.set_cons_zero, List.set_cons_succ, i64_w, i32_w]
                      rfl
                     refine done_ (done_of HT_.out (by kernel_rfl)) ?_
                     try go_wp2
                     go_roundg kj1
                     case measure => have := HK1.out; have := HJ1.out; omega
                     case rel => exact ⟨(y277), (wrap64 (x5_1 + (wrap64 (t252 + 3)))), (by first | rfl | (simp; done) | (simp [*]; done)), H', ⟨by have := HK1.out; have := HJ1.out; omega⟩, ⟨by (with_reducible repeat (first | apply Kd.V_alloc | apply Kd.V_drewN | apply Kd.V_drew)); exact Kd.V_mono HO_0.out (fun _ hk => ⟨hk.1.1, hk.2⟩)⟩, ⟨by (with_reducible repeat (first | apply Kd.N_alloc | apply Kd.N_drewN | apply Kd.N_drew)); exact Kd.N_mono HO279.out (fun _ hk => hk.1)⟩, ⟨by repeat (first | (with_reducible first | exact HB.out | apply below_alloc | apply pw_below_drewN | apply below_drew1) | exact HB.out)⟩⟩
                    ·rw [if_neg c36] at H
                     exact absurd H (by simp)
                   ·rw [if_neg c33] at H
                    exact absurd H (by simp)
                  ·rw [if_neg c32] at H
                   exact absurd H (by simp)
                 ·rw [if_neg c30] at H
                  exact absurd H (by simp)
                ·rw [if_neg c29] at H
                 have c29b0 : (t258 == (IntKind.u64.wrap (t264))) = false := beq_eq_false_iff_ne.mpr c29
                 have c29b1 : (t258 != (IntKind.u64.wrap (t264))) = true := bne_iff_ne.mpr c29
                 simp only [Option.some.injEq, Prod.mk.injEq] at H
                 obtain ⟨rfl, rfl⟩ := H
                 obtain ⟨Ao50, co50, eo50⟩ := Kd.N_slice HO_4.out
                 subst eo50
                 have p251 : 0 ≤ ((ji14) : Int) := of_decide_eq_true (by first | (with_reducible assumption) | assumption)
                 have q251 : (ji14) < (x4_1.length : Int) := of_decide_eq_true (by first | (with_reducible assumption) | assumption)
                 obtain ⟨ad251, A251_1, c251_1, e251, hx251_0, hx251_1, hl251_1, hi251_1⟩ := at_T69 (Kd.N_reads' HO_4.out).2.2 (ji14) p251 q251
                 cases e251
                 obtain ⟨ce251, hce251, hMe251, hcc251⟩ := Kd.N_get HO_4.out z69 (ji14) p251 (by first | exact q251 | exact of_decide_eq_true (by first | (with_reducible assumption) | assumption) | (have e_ := (Kd.N_reads' HO_4.out).1; omega))
                 obtain ⟨ua251_1, uc251_1, rfl, ul251_1, ge251_1⟩ := k69_openF hMe251
                 have hv251_1 := hcc251 1 _ rfl
                 rw [add_field _ _ 1 (by omega)] at hv251_1
                 replace hv251_1 := Option.some.inj (hv251_1.symm.trans hx251_1)
                 injection hv251_1 with hva_ hvn_ hvc_
                 rw [hva_] at ge251_1
                 rw [hvc_] at ul251_1
                 have HL251_1 := Aside0.mk (show Kd.V (Kd.int .u8) 5 _ w.heap.size _ _ ((rd_T69 x4_1 (ji14)).f1) from Kd.V_mk ul251_1 ge251_1)
                 clear hva_ hvn_ hvc_ ge251_1 ul251_1
                 clear hcc251 hce251
                 have HR251_1 := Aside0.mk hi251_1
                 have HC251_1 := Aside0.mk hl251_1
                 clear hi251_1 hl251_1
                 replace p251 := eq_true p251
                 replace q251 := eq_true q251
                 try go_wp2_with (first | ((with_reducible refine gate_callee (f := 43) rfl ?_); refine goesL_ (some 40) rfl rfl Try.func43 (by kernel_rfl) rfl #[.int .i64 (x4_1.length : Int), .slice A251_1 ((rd_T69 x4_1 (ji14)).f1).length c251_1] rfl (by (try simp only [List.map_toArray, List.map_cons, List.map_nil]); first | done | (simp only [hji14]; rfl) | rfl | (simp only [List.length_drop, List.length_take]; rfl)) ?_; (with_reducible refine (kotatsuref05_Bytes.calls (x4_1.length : Int) _ _ ((rd_T69 x4_1 (ji14)).f1) t252 _ ?side1 ?side2 A17.out).mono ?_); (case side1 => repeat (first | exact (by repeat (first | (with_reducible exact HR251_1.out) | (with_reducible refine Kd.C_alloc ?_ _) | (with_reducible refine Kd.C_drewN ?_ _) | (with_reducible refine Kd.C_drew ?_) | exact HR251_1.out)) | (with_reducible refine Kd.C_alloc ?_ _) | (with_reducible refine Kd.C_drewN ?_ _) | (with_reducible refine Kd.C_drew ?_))); (case side2 => exact HC251_1.out); rintro e w' ⟨rfl, ⟨nd, rfl⟩⟩; refine ⟨_, rfl, ?_⟩))
                 (try (rw [drewN_self wc]; generalize hq_ : World.drewN wc _ = wc; have n0_ : Aside0 (Kd.V (Kd.int .u8) 5 wc w.heap.size (fun k_ => (P0_ k_ ∨ w.heap.size ≤ k_) ∧ some k_ ≠ (.slice (some ad251) x4_1.length co50 : Value).ownBlock) (.slice A251_1 ((rd_T69 x4_1 (ji14)).f1).length c251_1) ((rd_T69 x4_1 (ji14)).f1)) := ⟨by rw [← hq_]; exact (by (with_reducible repeat (first | apply Kd.V_alloc | apply Kd.V_drewN | apply Kd.V_drew)); exact HL251_1.out)⟩; have n1_ : Aside0 (Kd.V (Kd.int .u8) 5 wc w.heap.size (fun k_ => (P0_ k_ ∨ w.heap.size ≤ k_) ∧ some k_ ≠ (.slice (some ad251) x4_1.length co50 : Value).ownBlock) (.slice A0 l0.length c0) l0) := ⟨by rw [← hq_]; exact (by (with_reducible repeat (first | apply Kd.V_alloc | apply Kd.V_drewN | apply Kd.V_drew)); exact HO_0.out)⟩; have n2_ : Aside0 (Kd.N k69 69 wc w.heap.size (fun k_ => (P0_ k_ ∨ w.heap.size ≤ k_)) (.slice (some ad251) x4_1.length co50) x4_1) := ⟨by rw [← hq_]; exact (by (with_reducible repeat (first | apply Kd.N_alloc | apply Kd.N_drewN | apply Kd.N_drew)); exact HO_4.out)⟩; have n3_ : Aside0 (Below w.heap.size w wc) := ⟨by rw [← hq_]; exact (by repeat (first | (with_reducible first | exact HB.out | apply below_alloc | apply pw_below_drewN | apply below_drew1) | exact HB.out))⟩; have n4_ : Aside0 (Kd.C (Kd.int .u8) wc A251_1 ((rd_T69 x4_1 (ji14)).f1).length ((rd_T69 x4_1 (ji14)).f1)) := ⟨by rw [← hq_]; exact (by repeat (first | (with_reducible exact HR251_1.out) | (with_reducible refine Kd.C_alloc ?_ _) | (with_reducible refine Kd.C_drewN ?_ _) | (with_reducible refine Kd.C_drew ?_) | exact HR251_1.out))⟩; clear HL251_1 HO_0 HO_4 HB HR251_1 hq_; have HL251_1 := n0_; have HO_0 := n1_; have HO_4 := n2_; have HB := n3_; have HR251_1 := n4_; clear n0_ n1_ n2_ n3_ n4_))
                 have n0_ := Aside0.mk (Kd.V_drew HO_0.out)
                 have n1_ := Aside0.mk (Kd.N_drew HO_4.out)
                 have n2_ := Aside0.mk (Kd.V_drew HL251_1.out)
                 have n3_ := Aside0.mk (Kd.C_drew HR251_1.out)
                 have n4_ := Aside0.mk (below_drew1 HB.out)
                 clear HO_0
                 clear HO_4
                 clear HL251_1
                 clear HR251_1
                 clear HB
                 have HO_0 := n0_
                 have HO_4 := n1_
                 have HL251_1 := n2_
                 have HR251_1 := n3_
                 have HB := n4_
                 clear n0_ n1_ n2_ n3_ n4_
                 have q52 : ((wrap64 ((wrap64 (x5_1 + t252)) + 3)) : Int) ≤ ((l0.length : Int) : Int) := of_decide_eq_true (by first | (with_reducible assumption) | assumption)
                 obtain ⟨i052, hi052, _, hsz52, _⟩ := info_parts info5
                 have hroom52 : l0.length ≤ c0 := (Kd.V_reads' HO_0.out).2.1
                 have hC52 : Kd.F (Kd.int .u8) _ _ A0 l0.length l0 := (Kd.V_at (base := w.heap.size) HO_0.out).2.2
                 have ql52 : ((ji20) : Int) ≤ ((wrap64 ((wrap64 (x5_1 + t252)) + 3)) : Int) := of_decide_eq_true (by first | (with_reducible assumption) | assumption)
                 have q052 : (0 : Int) ≤ ((ji20) : Int) := of_decide_eq_true (by first | (with_reducible assumption) | assumption)
                 try clear hcut39
                 have hcut52 := cut_mid (P := Try.prog) 22 5 .i64 .i64 Try.underlying22 hi052 1 hsz52 A0 l0.length c0 (ji20) (wrap64 ((wrap64 (x5_1 + t252)) + 3)) q052 ql52 q52 hroom52
                 have hr52 := Kd.F_mid (lo := ((ji20) : Int).toNat) (hi := ((wrap64 ((wrap64 (x5_1 + t252)) + 3)) : Int).toNat) (c := c0) hC52 (by omega) (by omega) hroom52
                 obtain ⟨A52, hA52⟩ : ∃ A1, A1 = (if c0 = ((ji20) : Int).toNat then A0 else (A0 : Option Addr).map (·.add (((ji20) : Int).toNat * 1))) := ⟨_, rfl⟩
                 obtain ⟨c52, hc52⟩ : ∃ c1, c1 = c0 - ((ji20) : Int).toNat := ⟨_, rfl⟩
                 have hy52 : y253.length = ((wrap64 ((wrap64 (x5_1 + t252)) + 3)) : Int).toNat - ((ji20) : Int).toNat := (by rw [Ny253.out, List.length_drop, List.length_take] <;> omega)
                 rw [show ((l0).take ((wrap64 ((wrap64 (x5_1 + t252)) + 3)) : Int).toNat).drop ((ji20) : Int).toNat = y253 from Ny253.out.symm] at hr52
                 replace hr52 : Kd.F (Kd.int .u8) _ _ A52 y253.length y253 := (by rw [hA52]; exact hr52)
                 rw [← hy52, ← hA52, ← hc52] at hcut52
                 have HO257 := Aside0.mk (show Kd.V (Kd.int .u8) 5 _ w.heap.size _ (.slice A52 y253.length c52) y253 from Kd.V_mk (by rw [hy52, hc52]; exact Nat.sub_le_sub_right (Nat.le_trans (by omega) hroom52) _) hr52)
                 have HC257 := Aside0.mk (show y253.length ≤ c52 from by rw [hy52, hc52]; exact Nat.sub_le_sub_right (Nat.le_trans (by omega) hroom52) _)
                 clear hr52 hC52 hroom52 hi052 hsz52 hc52
                 have KY52 := Aside0.mk hy52
                 have KA52 := Aside0.mk hA52
                 clear hy52 hA52
                 replace q52 := eq_true q52
                 have q53 : ((ji20) : Int) ≤ ((l0.length : Int) : Int) := of_decide_eq_true (by first | (with_reducible assumption) | assumption)
                 obtain ⟨i053, hi053, _, hsz53, _⟩ := info_parts info5
                 have hroom53 : l0.length ≤ c0 := (Kd.V_reads' HO_0.out).2.1
                 have hC53 : Kd.F (Kd.int .u8) _ _ A0 l0.length l0 := (Kd.V_at (base := w.heap.size) HO_0.out).2.2
                 have ql53 : (x5_1 : Int) ≤ ((ji20) : Int) := of_decide_eq_true (by first | (with_reducible assumption) | assumption)
                 have q053 : (0 : Int) ≤ (x5_1 : Int) := of_decide_eq_true (by first | (with_reducible assumption) | assumption)
                 try clear hcut40
                 have hcut53 := cut_mid (P := Try.prog) 22 5 .i64 .i64 Try.underlying22 hi053 1 hsz53 A0 l0.length c0 x5_1 (ji20) q053 ql53 q53 hroom53
                 have hr53 := Kd.F_mid (lo := (x5_1 : Int).toNat) (hi := ((ji20) : Int).toNat) (c := c0) hC53 (by omega) (by omega) hroom53
                 obtain ⟨A53, hA53⟩ : ∃ A1, A1 = (if c0 = (x5_1 : Int).toNat then A0 else (A0 : Option Addr).map (·.add ((x5_1 : Int).toNat * 1))) := ⟨_, rfl⟩
                 obtain ⟨c53, hc53⟩ : ∃ c1, c1 = c0 - (x5_1 : Int).toNat := ⟨_, rfl⟩
                 have hy53 : y259.length = ((ji20) : Int).toNat - (x5_1 : Int).toNat := (by rw [Ny259.out, List.length_drop, List.length_take] <;> omega)
                 rw [show ((l0).take ((ji20) : Int).toNat).drop (x5_1 : Int).toNat = y259 from Ny259.out.symm] at hr53
                 replace hr53 : Kd.F (Kd.int .u8) _ _ A53 y259.length y259 := (by rw [hA53]; exact hr53)
                 rw [← hy53, ← hA53, ← hc53] at hcut53
                 have HO263 := Aside0.mk (show Kd.V (Kd.int .u8) 5 _ w.heap.size _ (.slice A53 y259.length c53) y259 from Kd.V_mk (by rw [hy53, hc53]; exact Nat.sub_le_sub_right (Nat.le_trans (by omega) hroom53) _) hr53)
                 have HC263 := Aside0.mk (show y259.length ≤ c53 from by rw [hy53, hc53]; exact Nat.sub_le_sub_right (Nat.le_trans (by omega) hroom53) _)
                 clear hr53 hC53 hroom53 hi053 hsz53 hc53
                 have KY53 := Aside0.mk hy53
                 have KA53 := Aside0.mk hA53
                 clear hy53 hA53
                 replace q53 := eq_true q53
                 refine start_ (n := 21) (S := fun w' => True) (ds := []) #[false, false, false, false, false, false, false, false, false, false, false, false, false, false, false, false, false, false, false, false, false] (by kernel_rfl) rfl rfl trivial (fun hHeld => ?_); refine with_tabW kotatsuref06_Unwrap.tab10 kotatsuref06_Unwrap.bits10 (fun HT_ HW_ => ?_)
                 generalize wc.drew = w51 at HO_0 HO_4 HL251_1 HR251_1 HB HO257 HO263 hHeld ⊢
                 refine pure_ (i := 0) (N := some 48) (v := ?_) (a' := ?_) #[true, false, false, false, false, false, false, false, false, false, false, false, false, false, false, false, false, false, false, false, false] rfl rfl (any_of HT_.out (by kernel_rfl)) (fun _ _ _ h => h) (Or.inl ⟨by rfl, ?_⟩) ?_ ?_
                 rotate_left
                 ·intro w'
                  go_simp
                  with_reducible rfl
                 rotate_left
                 ·simp only [Act.put, List.setIfInBounds_toArray, List.set_cons_zero, List.set_cons_succ, i64_w, i32_w]
                  rfl
                 refine pure_ (i := 1) (N := some 49) (v := ?_) (a' := ?_) #[true, true, false, false, false, false, false, false, false, false, false, false, false, false, false, false, false, false, false, false, false] rfl rfl (any_of HT_.out (by kernel_rfl)) (fun _ _ _ h => h) (Or.inl ⟨by rfl, ?_⟩) ?_ ?_
                 rotate_left
                 ·intro w'
                  go_simp
                  with_reducible rfl
                 rotate_left
                 ·simp only [Act.put, List.setIfInBounds_toArray, List.set_cons_zero, List.set_cons_succ, i64_w, i32_w]
                  rfl
                 refine pure_ (i := 2) (N := some 50) (v := ?_) (a' := ?_) #[true, true, true, false, false, false, false, false, false, false, false, false, false, false, false, false, false, false, false, false, false] rfl rfl (any_of HT_.out (by kernel_rfl)) (fun _ _ _ h => h) (Or.inl ⟨by rfl, ?_⟩) ?_ ?_
                 rotate_left
                 ·intro w'
                  go_simp
                  with_reducible rfl
                 rotate_left
                 ·simp only [Act.put, List.setIfInBounds_toArray, List.set_cons_zero, List.set_cons_succ, i64_w, i32_w]
                  rfl
                 refine pure_ (i := 3) (N := some 51) (v := ?_) (a' := ?_) #[true, true, true, true, false, false, false, false, false, false, false, false, false, false, false, false, false, false, false, false, false] rfl rfl (any_of HT_.out (by kernel_rfl)) (fun _ _ _ h => h) (Or.inl ⟨by rfl, ?_⟩) ?_ ?_
                 rotate_left
                 ·intro w'
                  go_simp
                  with_reducible rfl
                 rotate_left
                 ·simp only [Act.put, List.setIfInBounds_toArray, List.set_cons_zero, List.set_cons_succ, i64_w, i32_w]
                  rfl
                 refine pure_ (i := 4) (N := some 52) (v := ?_) (a' := ?_) #[true, true, true, true, true, false, false, false, false, false, false, false, false, false, false, false, false, false, false, false, false] rfl rfl (any_of HT_.out (by kernel_rfl)) (fun _ _ _ h => h) (Or.inl ⟨by rfl, ?_⟩) ?_ ?_
                 rotate_left
                 ·intro w'
                  go_simp
                  with_reducible rfl
                 rotate_left
                 ·simp only [Act.put, List.setIfInBounds_toArray, List.set_cons_zero, List.set_cons_succ, i64_w, i32_w]
                  rfl
                 refine pure_ (i := 5) (N := some 53) (v := ?_) (a' := ?_) #[true, true, true, true, true, true, false, false, false, false, false, false, false, false, false, false, false, false, false, false, false] rfl rfl (any_of HT_.out (by kernel_rfl)) (fun _ _ _ h => h) (Or.inl ⟨by rfl, ?_⟩) ?_ ?_
                 rotate_left
                 ·intro w'
                  go_simp
                  with_reducible rfl
                 rotate_left
                 ·simp only [Act.put, List.setIfInBounds_toArray, List.set_cons_zero, List.set_cons_succ, i64_w, i32_w]
                  rfl
                 refine pure_ (i := 6) (N := some 54) (v := ?_) (a' := ?_) #[true, true, true, true, true, true, true, false, false, false, false, false, false, false, false, false, false, false, false, false, false] rfl rfl (any_of HT_.out (by kernel_rfl)) (fun _ _ _ h => h) (Or.inl ⟨by rfl, ?_⟩) ?_ ?_
                 rotate_left
                 ·intro w'
                  go_simp
                  with_reducible rfl
                 rotate_left
                 ·simp only [Act.put, List.setIfInBounds_toArray, List.set_cons_zero, List.set_cons_succ, i64_w, i32_w]
                  rfl
                 refine pure_ (i := 7) (N := some 55) (v := ?_) (a' := ?_) #[true, true, true, true, true, true, true, true, false, false, false, false, false, false, false, false, false, false, false, false, false] rfl rfl (any_of HT_.out (by kernel_rfl)) (fun _ _ _ h => h) (Or.inl ⟨by rfl, ?_⟩) ?_ ?_
                 rotate_left
                 ·intro w'
                  go_simp
                  with_reducible rfl
                 rotate_left
                 ·simp only [Act.put, List.setIfInBounds_toArray, List.set_cons_zero, List.set_cons_succ, i64_w, i32_w]
                  rfl
                 refine pure_ (i := 8) (N := some 56) (v := ?_) (a' := ?_) #[true, true, true, true, true, true, true, true, true, false, false, false, false, false, false, false, false, false, false, false, false] rfl rfl (any_of HT_.out (by kernel_rfl)) (fun _ _ _ h => h) (Or.inl ⟨by rfl, ?_⟩) ?_ ?_
                 rotate_left
                 ·intro w'
                  go_simp
                  with_reducible rfl
                 rotate_left
                 ·simp only [Act.put, List.setIfInBounds_toArray, List.set_cons_zero, List.set_cons_succ, i64_w, i32_w]
                  rfl
                 refine pure_ (i := 9) (N := some 57) (v := ?_) (a' := ?_) #[true, true, true, true, true, true, true, true, true, true, false, false, false, false, false, false, false, false, false, false, false] rfl rfl (any_of HT_.out (by kernel_rfl)) (fun _ _ _ h => h) (Or.inl ⟨by rfl, ?_⟩) ?_ ?_
                 rotate_left
                 ·intro w'
                  go_simp
                  with_reducible rfl
                 rotate_left
                 ·simp only [Act.put, List.setIfInBounds_toArray, List.set_cons_zero, List.set_cons_succ, i64_w, i32_w]
                  rfl
                 refine pure_ (i := 11) (N := some 59) (v := ?_) (a' := ?_) #[true, true, true, true, true, true, true, true, true, true, false, true, false, false, false, false, false, false, false, false, false] rfl rfl (any_of HT_.out (by kernel_rfl)) (fun _ _ _ h => h) (Or.inl ⟨by rfl, ?_⟩) ?_ ?_
                 rotate_left
                 ·intro w'
                  go_simp
                  with_reducible rfl
                 rotate_left
                 ·simp only [Act.put, List.setIfInBounds_toArray, List.set_cons_zero, List.set_cons_succ, i64_w, i32_w]
                  rfl
                 refine pure_ (i := 12) (N := some 60) (v := ?_) (a' := ?_) #[true, true, true, true, true, true, true, true, true, true, false, true, true, false, false, false, false, false, false, false, false] rfl rfl (any_of HT_.out (by kernel_rfl)) (fun _ _ _ h => h) (Or.inl ⟨by rfl, ?_⟩) ?_ ?_
                 rotate_left
                 ·intro w'
                  go_simp
                  with_reducible rfl
                 rotate_left
                 ·simp only [Act.put, List.setIfInBounds_toArray, List.set_cons_zero, List.set_cons_succ, i64_w, i32_w]
                  rfl
                 refine pure_ (i := 13) (N := some 61) (v := ?_) (a' := ?_) #[true, true, true, true, true, true, true, true, true, true, false, true, true, true, false, false, false, false, false, false, false] rfl rfl (any_of HT_.out (by kernel_rfl)) (fun _ _ _ h => h) (Or.inl ⟨by rfl, ?_⟩) ?_ ?_
                 rotate_left
                 ·intro w'
                  go_simp
                  with_reducible rfl
                 rotate_left
                 ·simp only [Act.put, List.setIfInBounds_toArray, List.set_cons_zero, List.set_cons_succ, i64_w, i32_w]
                  rfl
                 refine pure_ (i := 14) (N := some 62) (v := ?_) (a' := ?_) #[true, true, true, true, true, true, true, true, true, true, false, true, true, true, true, false, false, false, false, false, false] rfl rfl (any_of HT_.out (by kernel_rfl)) (fun _ _ _ h => h) (Or.inl ⟨by rfl, ?_⟩) ?_ ?_
                 rotate_left
                 ·intro w'
                  go_simp
                  with_reducible rfl
                 rotate_left
                 ·simp only [Act.put, List.setIfInBounds_toArray, List.set_cons_zero, List.set_cons_succ, i64_w, i32_w]
                  rfl
                 refine pure_ (i := 15) (N := some 63) (v := ?_) (a' := ?_) #[true, true, true, true, true, true, true, true, true, true, false, true, true, true, true, true, false, false, false, false, false] rfl rfl (any_of HT_.out (by kernel_rfl)) (fun _ _ _ h => h) (Or.inl ⟨by rfl, ?_⟩) ?_ ?_
                 rotate_left
                 ·intro w'
                  go_simp
                  with_reducible rfl
                 rotate_left
                 ·simp only [Act.put, List.setIfInBounds_toArray, List.set_cons_zero, List.set_cons_succ, i64_w, i32_w]
                  rfl
                 refine pure_ (i := 16) (N := some 64) (v := ?_) (a' := ?_) #[true, true, true, true, true, true, true, true, true, true, false, true, true, true, true, true, true, false, false, false, false] rfl rfl (any_of HT_.out (by kernel_rfl)) (fun _ _ _ h => h) (Or.inl ⟨by rfl, ?_⟩) ?_ ?_
                 rotate_left
                 ·intro w'
                  go_simp
                  with_reducible rfl
                 rotate_left
                 ·simp only [Act.put, List.setIfInBounds_toArray, List.set_cons_zero, List.set_cons_succ, i64_w, i32_w]
                  rfl
                 refine pure_ (i := 17) (N := some 65) (v := ?_) (a' := ?_) #[true, true, true, true, true, true, true, true, true, true, false, true, true, true, true, true, true, true, false, false, false] rfl rfl (any_of HT_.out (by kernel_rfl)) (fun _ _ _ h => h) (Or.inl ⟨by rfl, ?_⟩) ?_ ?_
                 rotate_left
                 ·intro w'
                  go_simp
                  with_reducible rfl
                 rotate_left
                 ·simp only [Act.put, List.setIfInBounds_toArray, List.set_cons_zero, List.set_cons_succ, i64_w, i32_w]
                  rfl
                 refine one_ (i := 10) (N := some 58) #[true, true, true, true, true, true, true, true, true, true, true, true, true, true, true, true, true, true, false, false, false] rfl rfl (one_of HT_.out (by kernel_rfl)) (by decide) (fun K hK => ?_)
                 refine goes_ Try.func44 (by kernel_rfl) rfl #[.slice A52 y253.length c52] (by rfl) rfl rfl (by (try simp only [List.map_toArray, List.map_cons, List.map_nil]); first | done | rfl | (simp only [List.length_drop, List.length_take]; rfl)) ?_
                 with_reducible refine (kotatsuref02_Take.calls kj1 _ _ y253 t258 _ ?side1 ?side2 A24.out).mono ?_
                 (case side1 => repeat (first | exact (Kd.V_reads' HO257.out).2.2 | (with_reducible refine Kd.C_alloc ?_ _) | (with_reducible refine Kd.C_drewN ?_ _) | (with_reducible refine Kd.C_drew ?_)))
                 (case side2 => exact (Kd.V_reads' HO257.out).2.1)
                 rintro e w' ⟨rfl, ⟨nd, rfl⟩⟩
                 refine ⟨_, rfl, ?_⟩
                 refine hK.out _ _ trivial (fun hHeld => ?_)
                 clear hK K
                 refine norm_ (a' := ?_) ?_ ?_
                 rotate_left
                 ·show Act.put _ (some 58) _ = _
                  simp only [Act.put, List.setIfInBounds_toArray, List.set_cons_zero, List.set_cons_succ, i64_w, i32_w]
                  rfl
                 refine one_ (i := 18) (N := some 66) #[true, true, true, true, true, true, true, true, true, true, true, true, true, true, true, true, true, true, true, false, false] rfl rfl (one_of HT_.out (by kernel_rfl)) (by decide) (fun K hK => ?_)
                 refine goes_ Try.func37 (by kernel_rfl) rfl #[.slice A53 y259.length c53] (by rfl) rfl rfl (by (try simp only [List.map_toArray, List.map_cons, List.map_nil]); first | done | rfl | (simp only [List.length_drop, List.length_take]; rfl)) ?_
                 with_reducible refine (kotatsuref02_Short.calls kj1 (fun k_ => ((P0_ k_ ∨ w.heap.size ≤ k_) ∧ some k_ ≠ (.slice (some ad251) x4_1.length co50 : Value).ownBlock)) _ _ y259 t264 _ ?side1 A28.out).mono ?_
                 (case side1 => exact HO263.out)
                 rintro e w54 ⟨rfl, hb⟩
                 refine ⟨_, rfl, ?_⟩
                 have n0_ := Aside0.mk (Kd.V_below (by (with_reducible repeat (first | apply Kd.V_alloc | apply Kd.V_drewN | apply Kd.V_drew)); exact HO_0.out) hb)
                 have n1_ := Aside0.mk (Kd.N_below (by (with_reducible repeat (first | apply Kd.N_alloc | apply Kd.N_drewN | apply Kd.N_drew)); exact HO_4.out) hb)
                 have n2_ := Aside0.mk (Kd.V_below (by (with_reducible repeat (first | apply Kd.V_alloc | apply Kd.V_drewN | apply Kd.V_drew)); exact HL251_1.out) hb)
                 have n3_ := Aside0.mk (Kd.V_below (by (with_reducible repeat (first | apply Kd.V_alloc | apply Kd.V_drewN | apply Kd.V_drew)); exact HO257.out) hb)
                 have n4_ := Aside0.mk (Kd.V_below (by (with_reducible repeat (first | apply Kd.V_alloc | apply Kd.V_drewN | apply Kd.V_drew)); exact HO263.out) hb)
                 have n5_ := Aside0.mk (Kd.C_below (by repeat (first | (with_reducible exact HR251_1.out) | (with_reducible refine Kd.C_alloc ?_ _) | (with_reducible refine Kd.C_drewN ?_ _) | (with_reducible refine Kd.C_drew ?_) | exact HR251_1.out)) hb)
                 have n6_ := Aside0.mk (below_step (by repeat (first | (with_reducible first | exact HB.out | apply below_alloc | apply pw_below_drewN | apply below_drew1) | exact HB.out)) hb)
                 clear HO_0
                 clear HO_4
                 clear HL251_1
                 clear HO257
                 clear HO263
                 clear HR251_1
                 clear HB
                 have HO_0 := n0_
                 have HO_4 := n1_
                 have HL251_1 := n2_
                 have HO257 := n3_
                 have HO263 := n4_
                 have HR251_1 := n5_
                 have HB := n6_
                 clear n0_ n1_ n2_ n3_ n4_ n5_ n6_
                 (try clear hb)
                 (try clear hb2)
                 (try clear hk)
                 (try clear hi)
                 refine hK.out _ _ trivial (fun hHeld => ?_)
                 clear hK K
                 refine norm_ (a' := ?_) ?_ ?_
                 rotate_left
                 ·show Act.put _ (some 66) _ = _
                  simp only [Act.put, List.setIfInBounds_toArray, List.set_cons_zero, List.set_cons_succ, i64_w, i32_w]
                  rfl
                 refine pure_ (i := 19) (N := some 67) (v := ?_) (a' := ?_) #[true, true, true, true, true, true, true, true, true, true, true, true, true, true, true, true, true, true, true, true, false] rfl rfl (any_of HT_.out (by kernel_rfl)) (fun _ _ _ h => h) (Or.inl ⟨by rfl, ?_⟩) ?_ ?_
                 rotate_left
                 ·intro w'
                  go_simp
                  with_reducible rfl
                 rotate_left
                 ·simp only [Act.put, List.setIfInBounds_toArray, List.set_cons_zero, List.set_cons_succ, i64_w, i32_w]
                  rfl
                 refine pure_ (i := 20) (N := some 68) (v := ?_) (a' := ?_) #[true, true, true, true, true, true, true, true, true, true, true, true, true, true, true, true, true, true, true, true, true] rfl rfl (any_of HT_.out (by kernel_rfl)) (fun _ _ _ h => h) (Or.inl ⟨by rfl, ?_⟩) ?_ ?_
                 rotate_left
                 ·intro w'
                  go_simp
                  with_reducible rfl
                 rotate_left
                 ·simp only [Act.put, List.setIfInBounds_toArray, List.set_cons_zero, List.set_cons_succ, i64_w, i32_w]
                  rfl
                 refine done_ (done_of HT_.out (by kernel_rfl)) ?_
                 try go_wp2
                 go_ret2
                 exact ⟨_, by first | rfl | (simp [errW_none, errW_some] <;> rfl) | (simp only [← hji14, ← hji20]; first | rfl | (simp [errW_none, errW_some] <;> rfl)) | (simp [*, errW_none, errW_some] <;> rfl), by first | exact Kd.S_nil _ _ _ _ _ | exact Kd.N_nil _ _ _ _ _ | exact Kd.V_nil _ _ _ _ _ | exact Kd.Q_nil _ _ _ _ _ | exact Kd.R_nil _ _ _ _ _, by repeat (first | (with_reducible first | exact HB.out | apply below_alloc | apply pw_below_drewN | apply below_drew1) | exact HB.out)⟩
               ·rw [if_neg c27] at H
                exact absurd H (by simp)
              ·rw [if_neg c26] at H
               exact absurd H (by simp)
             ·rw [if_neg c25] at H
              exact absurd H (by simp)
            ·rw [if_neg c23] at H
             exact absurd H (by simp)
           ·rw [if_neg c22] at H
            exact absurd H (by simp)
          ·rw [if_neg c21] at H
           exact absurd H (by simp)
        ·rw [if_neg c16] at H
         exact absurd H (by simp)
       ·rw [if_neg c15] at H
        exact absurd H (by simp)
      ·rw [if_neg c13] at H
       have c13b0 : decide (0 < (x4_1.length : Int)) = false := decide_eq_false c13
       have c13b1 : decide (0 < x4_1.length) = false := decide_eq_false (by omega)
       clear c13
       replace H := Option.bind_eq_some_iff.mp H
       obtain ⟨t280, A550, H⟩ := H
       replace H : (if (wrap64 ((wrap64 (x5_1 + t280)) + 3)) > (l0.length : Int) then (some (([] : List (S69)), 2)) else (if 0 ≤ (wrap64 ((wrap64 (x5_1 + t280)) + 1)) then (if (wrap64 ((wrap64 (x5_1 + t280)) + 1)) ≤ (wrap64 ((wrap64 (x5_1 + t280)) + 3)) then (if (wrap64 ((wrap64 (x5_1 + t280)) + 3)) ≤ (l0.length : Int) then ((kotatsuref02_Take.f kj1 ((l0.take ((wrap64 ((wrap64 (x5_1 + t280)) + 3)) : Int).toNat).drop ((wrap64 ((wrap64 (x5_1 + t280)) + 1)) : Int).toNat)).bind fun t286 => (if 0 ≤ x5_1 then (if x5_1 ≤ (wrap64 ((wrap64 (x5_1 + t280)) + 1)) then (if (wrap64 ((wrap64 (x5_1 + t280)) + 1)) ≤ (l0.length : Int) then ((kotatsuref02_Short.f kj1 ((l0.take ((wrap64 ((wrap64 (x5_1 + t280)) + 1)) : Int).toNat).drop (x5_1 : Int).toNat)).bind fun t292 => (if t286 = (IntKind.u64.wrap (t292)) then (if x5_1 < (l0.length : Int) then (if 0 ≤ (wrap64 (x5_1 + 1)) then (if (wrap64 (x5_1 + 1)) ≤ (wrap64 ((wrap64 (x5_1 + t280)) + 1)) then ((kotatsuref01_Join.f kj1 (([((l0.take ((wrap64 ((wrap64 (x5_1 + t280)) + 1)) : Int).toNat).drop ((wrap64 (x5_1 + 1)) : Int).toNat)] : List (List Int)))).bind fun t302 => (if x4_1.length < 4398046511104 then (kotatsuref06_Unwrap.l0 kj1 l0 (x4_1 ++ [(⟨rd l0 x5_1, t302⟩ : S69)]) (wrap64 (x5_1 + (wrap64 (t280 + 3))))) else (none))) else (none)) else (none)) else (none)) else (some (([] : List (S69)), 3)))) else (none)) else (none)) else (none))) else (none)) else (none)) else (none))) = some (r1, r2) := H
       have A55 := Aside0.mk A550
       clear A550
       by_cases c56 : (wrap64 ((wrap64 (x5_1 + t280)) + 3)) > (l0.length : Int)
       ·rw [if_pos c56] at H
        have c56b0 : decide ((l0.length : Int) < (wrap64 ((wrap64 (x5_1 + t280)) + 3))) = true := decide_eq_true c56
        clear c56
        simp only [Option.some.injEq, Prod.mk.injEq] at H
        obtain ⟨rfl, rfl⟩ := H
        obtain ⟨Ao57, co57, eo57⟩ := Kd.N_slice HO_4.out
        subst eo57
        go_wp2_with (first | ((with_reducible refine gate_callee (f := 43) rfl ?_); refine goesL_ (some 40) rfl rfl Try.func43 (by kernel_rfl) rfl #[.int .i64 (x4_1.length : Int), .slice none 0 0] rfl (by (try simp only [List.map_toArray, List.map_cons, List.map_nil]); first | done | rfl | (simp only [List.length_drop, List.length_take]; rfl)) ?_; (refine (kotatsuref05_Bytes.calls (x4_1.length : Int) _ _ ([] : List Int) t280 _ ?side1 ?side2 A55.out).mono ?_); (case side1 => exact Kd.C_nil _ _); (case side2 => exact Nat.le_refl _); rintro e w' ⟨rfl, ⟨nd, rfl⟩⟩; refine ⟨_, rfl, ?_⟩))
        go_ret2
        exact ⟨_, by first | rfl | (simp [errW_none, errW_some] <;> rfl) | (simp [*, errW_none, errW_some] <;> rfl), by first | exact Kd.S_nil _ _ _ _ _ | exact Kd.N_nil _ _ _ _ _ | exact Kd.V_nil _ _ _ _ _ | exact Kd.Q_nil _ _ _ _ _ | exact Kd.R_nil _ _ _ _ _, by repeat (first | (with_reducible first | exact HB.out | apply below_alloc | apply pw_below_drewN | apply below_drew1) | exact HB.out)⟩
       ·rw [if_neg c56] at H
        have c56b0 : decide ((l0.length : Int) < (wrap64 ((wrap64 (x5_1 + t280)) + 3))) = false := decide_eq_false c56
        clear c56
        obtain ⟨ji58, hji58⟩ : ∃ j_ : Int, (wrap64 ((wrap64 (x5_1 + t280)) + 1)) = j_ := ⟨_, rfl⟩
        replace H : (if 0 ≤ (ji58) then (if (ji58) ≤ (wrap64 ((wrap64 (x5_1 + t280)) + 3)) then (if (wrap64 ((wrap64 (x5_1 + t280)) + 3)) ≤ (l0.length : Int) then ((kotatsuref02_Take.f kj1 ((l0.take ((wrap64 ((wrap64 (x5_1 + t280)) + 3)) : Int).toNat).drop ((ji58) : Int).toNat)).bind fun t286 => (if 0 ≤ x5_1 then (if x5_1 ≤ (ji58) then (if (ji58) ≤ (l0.length : Int) then ((kotatsuref02_Short.f kj1 ((l0.take ((ji58) : Int).toNat).drop (x5_1 : Int).toNat)).bind fun t292 => (if t286 = (IntKind.u64.wrap (t292)) then (if x5_1 < (l0.length : Int) then (if 0 ≤ (wrap64 (x5_1 + 1)) then (if (wrap64 (x5_1 + 1)) ≤ (ji58) then ((kotatsuref01_Join.f kj1 (([((l0.take ((ji58) : Int).toNat).drop ((wrap64 (x5_1 + 1)) : Int).toNat)] : List (List Int)))).bind fun t302 => (if x4_1.length < 4398046511104 then (kotatsuref06_Unwrap.l0 kj1 l0 (x4_1 ++ [(⟨rd l0 x5_1, t302⟩ : S69)]) (wrap64 (x5_1 + (wrap64 (t280 + 3))))) else (none))) else (none)) else (none)) else (none)) else (some (([] : List (S69)), 3)))) else (none)) else (none)) else (none))) else (none)) else (none)) else (none)) = some (r1, r2) := by first | (rw [hji58] at H; exact H) | (simp only [hji58] at H ⊢; exact H)
        (try rw [hji58] at A55)
        have hji58w : (IntKind.i64.wrap ((wrap64 (x5_1 + t280)) + 1)) = ji58 := (i64_w _).trans hji58
        by_cases c59 : 0 ≤ (ji58)
        ·rw [if_pos c59] at H
         have c59b0 := eq_true c59
         have c59b1 : decide (0 ≤ (ji58)) = true := decide_eq_true c59
         clear c59
         by_cases c60 : (ji58) ≤ (wrap64 ((wrap64 (x5_1 + t280)) + 3))
         ·rw [if_pos c60] at H
          have c60b0 := eq_true c60
          have c60b1 : decide ((ji58) ≤ (wrap64 ((wrap64 (x5_1 + t280)) + 3))) = true := decide_eq_true c60
          by_cases c61 : (wrap64 ((wrap64 (x5_1 + t280)) + 3)) ≤ (l0.length : Int)
          ·rw [if_pos c61] at H
           have c61b0 := eq_true c61
           have c61b1 : decide ((wrap64 ((wrap64 (x5_1 + t280)) + 3)) ≤ (l0.length : Int)) = true := decide_eq_true c61
           obtain ⟨y281, hy281⟩ : ∃ y_ : List Int, y_ = ((l0.take ((wrap64 ((wrap64 (x5_1 + t280)) + 3)) : Int).toNat).drop ((ji58) : Int).toNat) := ⟨_, rfl⟩
           replace H : ((kotatsuref02_Take.f kj1 y281).bind fun t286 => (if 0 ≤ x5_1 then (if x5_1 ≤ (ji58) then (if (ji58) ≤ (l0.length : Int) then ((kotatsuref02_Short.f kj1 ((l0.take ((ji58) : Int).toNat).drop (x5_1 : Int).toNat)).bind fun t292 => (if t286 = (IntKind.u64.wrap (t292)) then (if x5_1 < (l0.length : Int) then (if 0 ≤ (wrap64 (x5_1 + 1)) then (if (wrap64 (x5_1 + 1)) ≤ (ji58) then ((kotatsuref01_Join.f kj1 (([((l0.take ((ji58) : Int).toNat).drop ((wrap64 (x5_1 + 1)) : Int).toNat)] : List (List Int)))).bind fun t302 => (if x4_1.length < 4398046511104 then (kotatsuref06_Unwrap.l0 kj1 l0 (x4_1 ++ [(⟨rd l0 x5_1, t302⟩ : S69)]) (wrap64 (x5_1 + (wrap64 (t280 + 3))))) else (none))) else (none)) else (none)) else (none)) else (some (([] : List (S69)), 3)))) else (none)) else (none)) else (none))) = some (r1, r2) := by first | (rw [hy281]; with_reducible exact H) | (have H2_ := (Option.bind_some _ _).symm.trans H; rw [hy281]; with_reducible exact H2_) | (have H2_ := (Option.bind_some _ _).symm.trans H; with_reducible exact H2_) | with_reducible exact H | (rw [hy281]; exact H) | exact H
           have Ny281 := Aside0.mk hy281
           clear hy281
           replace H := Option.bind_eq_some_iff.mp H
           obtain ⟨t286, A620, H⟩ := H
           replace H : (if 0 ≤ x5_1 then (if x5_1 ≤ (ji58) then (if (ji58) ≤ (l0.length : Int) then ((kotatsuref02_Short.f kj1 ((l0.take ((ji58) : Int).toNat).drop (x5_1 : Int).toNat)).bind fun t292 => (if t286 = (IntKind.u64.wrap (t292)) then (if x5_1 < (l0.length : Int) then (if 0 ≤ (wrap64 (x5_1 + 1)) then (if (wrap64 (x5_1 + 1)) ≤ (ji58) then ((kotatsuref01_Join.f kj1 (([((l0.take ((ji58) : Int).toNat).drop ((wrap64 (x5_1 + 1)) : Int).toNat)] : List (List Int)))).bind fun t302 => (if x4_1.length < 4398046511104 then (kotatsuref06_Unwrap.l0 kj1 l0 (x4_1 ++ [(⟨rd l0 x5_1, t302⟩ : S69)]) (wrap64 (x5_1 + (wrap64 (t280 + 3))))) else (none))) else (none)) else (none)) else (none)) else (some (([] : List (S69)), 3)))) else (none)) else (none)) else (none)) = some (r1, r2) := H
           have A62 := Aside0.mk A620
           clear A620
           by_cases c63 : 0 ≤ x5_1
           ·rw [if_pos c63] at H
            have c63b0 := eq_true c63
            have c63b1 : decide (0 ≤ x5_1) = true := decide_eq_true c63
            clear c63
            by_cases c64 : x5_1 ≤ (ji58)
            ·rw [if_pos c64] at H
             have c64b0 := eq_true c64
             have c64b1 : decide (x5_1 ≤ (ji58)) = true := decide_eq_true c64
             clear c64
             by_cases c65 : (ji58) ≤ (l0.length : Int)
             ·rw [if_pos c65] at H
              have c65b0 := eq_true c65
              have c65b1 : decide ((ji58) ≤ (l0.length : Int)) = true := decide_eq_true c65
              clear c65
              obtain ⟨y287, hy287⟩ : ∃ y_ : List Int, y_ = ((l0.take ((ji58) : Int).toNat).drop (x5_1 : Int).toNat) := ⟨_, rfl⟩
              replace H : ((kotatsuref02_Short.f kj1 y287).bind fun t292 => (if t286 = (IntKind.u64.wrap (t292)) then (if x5_1 < (l0.length : Int) then (if 0 ≤ (wrap64 (x5_1 + 1)) then (if (wrap64 (x5_1 + 1)) ≤ (ji58) then ((kotatsuref01_Join.f kj1 (([((l0.take ((ji58) : Int).toNat).drop ((wrap64 (x5_1 + 1)) : Int).toNat)] : List (List Int)))).bind fun t302 => (if x4_1.length < 4398046511104 then (kotatsuref06_Unwrap.l0 kj1 l0 (x4_1 ++ [(⟨rd l0 x5_1, t302⟩ : S69)]) (wrap64 (x5_1 + (wrap64 (t280 + 3))))) else (none))) else (none)) else (none)) else (none)) else (some (([] : List (S69)), 3)))) = some (r1, r2) := by first | (rw [hy287]; with_reducible exact H) | (have H2_ := (Option.bind_some _ _).symm.trans H; rw [hy287]; with_reducible exact H2_) | (have H2_ := (Option.bind_some _ _).symm.trans H; with_reducible exact H2_) | with_reducible exact H | (rw [hy287]; exact H) | exact H
              have Ny287 := Aside0.mk hy287
              clear hy287
              replace H := Option.bind_eq_some_iff.mp H
              obtain ⟨t292, A660, H⟩ := H
              replace H : (if t286 = (IntKind.u64.wrap (t292)) then (if x5_1 < (l0.length : Int) then (if 0 ≤ (wrap64 (x5_1 + 1)) then (if (wrap64 (x5_1 + 1)) ≤ (ji58) then ((kotatsuref01_Join.f kj1 (([((l0.take ((ji58) : Int).toNat).drop ((wrap64 (x5_1 + 1)) : Int).toNat)] : List (List Int)))).bind fun t302 => (if x4_1.length < 4398046511104 then (kotatsuref06_Unwrap.l0 kj1 l0 (x4_1 ++ [(⟨rd l0 x5_1, t302⟩ : S69)]) (wrap64 (x5_1 + (wrap64 (t280 + 3))))) else (none))) else (none)) else (none)) else (none)) else (some (([] : List (S69)), 3))) = some (r1, r2) := H
              have A66 := Aside0.mk A660
              clear A660
              by_cases c67 : t286 = (IntKind.u64.wrap (t292))
              ·rw [if_pos c67] at H
               have c67b0 : (t286 == (IntKind.u64.wrap (t292))) = true := beq_iff_eq.mpr c67
               have c67b1 : (t286 != (IntKind.u64.wrap (t292))) = false := bne_eq_false_iff_eq.mpr c67
               clear c67
               by_cases c68 : x5_1 < (l0.length : Int)
               ·rw [if_pos c68] at H
                have c68b0 : decide (x5_1 < (l0.length : Int)) = true := decide_eq_true c68
                clear c68
                obtain ⟨ji69, hji69⟩ : ∃ j_ : Int, (wrap64 (x5_1 + 1)) = j_ := ⟨_, rfl⟩
                replace H : (if 0 ≤ (ji69) then (if (ji69) ≤ (ji58) then ((kotatsuref01_Join.f kj1 (([((l0.take ((ji58) : Int).toNat).drop ((ji69) : Int).toNat)] : List (List Int)))).bind fun t302 => (if x4_1.length < 4398046511104 then (kotatsuref06_Unwrap.l0 kj1 l0 (x4_1 ++ [(⟨rd l0 x5_1, t302⟩ : S69)]) (wrap64 (x5_1 + (wrap64 (t280 + 3))))) else (none))) else (none)) else (none)) = some (r1, r2) := by first | (rw [hji69] at H; exact H) | (simp only [hji69] at H ⊢; exact H)
                (try rw [hji69] at A55)
                (try rw [hji69] at A62)
                (try rw [hji69] at A66)
                have hji69w : (IntKind.i64.wrap (x5_1 + 1)) = ji69 := (i64_w _).trans hji69
                by_cases c70 : 0 ≤ (ji69)
                ·rw [if_pos c70] at H
                 have c70b0 := eq_true c70
                 have c70b1 : decide (0 ≤ (ji69)) = true := decide_eq_true c70
                 clear c70
                 by_cases c71 : (ji69) ≤ (ji58)
                 ·rw [if_pos c71] at H
                  have c71b0 := eq_true c71
                  have c71b1 : decide ((ji69) ≤ (ji58)) = true := decide_eq_true c71
                  clear c71
                  have c72b0 := eq_true (of_decide_eq_true (by first | (with_reducible assumption) | assumption) : (ji58) ≤ (l0.length : Int))
                  obtain ⟨y294, hy294⟩ : ∃ y_ : List Int, y_ = ((l0.take ((ji58) : Int).toNat).drop ((ji69) : Int).toNat) := ⟨_, rfl⟩
                  replace H : ((kotatsuref01_Join.f kj1 (([y294] : List (List Int)))).bind fun t302 => (if x4_1.length < 4398046511104 then (kotatsuref06_Unwrap.l0 kj1 l0 (x4_1 ++ [(⟨rd l0 x5_1, t302⟩ : S69)]) (wrap64 (x5_1 + (wrap64 (t280 + 3))))) else (none))) = some (r1, r2) := by first | (rw [hy294]; with_reducible exact H) | (have H2_ := (Option.bind_some _ _).symm.trans H; rw [hy294]; with_reducible exact H2_) | (have H2_ := (Option.bind_some _ _).symm.trans H; with_reducible exact H2_) | with_reducible exact H | (rw [hy294]; exact H) | exact H
                  have Ny294 := Aside0.mk hy294
                  clear hy294
                  obtain ⟨y299, hy299⟩ : ∃ y_ : List (List Int), y_ = (([y294] : List (List Int))) := ⟨_, rfl⟩
                  replace H : ((kotatsuref01_Join.f kj1 y299).bind fun t302 => (if x4_1.length < 4398046511104 then (kotatsuref06_Unwrap.l0 kj1 l0 (x4_1 ++ [(⟨rd l0 x5_1, t302⟩ : S69)]) (wrap64 (x5_1 + (wrap64 (t280 + 3))))) else (none))) = some (r1, r2) := by first | (rw [hy299]; with_reducible exact H) | (have H2_ := (Option.bind_some _ _).symm.trans H; rw [hy299]; with_reducible exact H2_) | (have H2_ := (Option.bind_some _ _).symm.trans H; with_reducible exact H2_) | with_reducible exact H | (rw [hy299]; exact H) | exact H
                  have Ny299 := Aside0.mk hy299
                  clear hy299
                  replace H := Option.bind_eq_some_iff.mp H
                  obtain ⟨t302, A730, H⟩ := H
                  replace H : (if x4_1.length < 4398046511104 then (kotatsuref06_Unwrap.l0 kj1 l0 (x4_1 ++ [(⟨rd l0 x5_1, t302⟩ : S69)]) (wrap64 (x5_1 + (wrap64 (t280 + 3))))) else (none)) = some (r1, r2) := H
                  have A73 := Aside0.mk A730
                  clear A730
                  by_cases c74 : x4_1.length < 4398046511104
                  ·rw [if_pos c74] at H
                   have LMc74 := Aside0.mk c74
                   clear c74
                   obtain ⟨y305, hy305⟩ : ∃ y_ : List (S69), y_ = (x4_1 ++ [(⟨rd l0 x5_1, t302⟩ : S69)]) := ⟨_, rfl⟩
                   replace H : (kotatsuref06_Unwrap.l0 kj1 l0 y305 (wrap64 (x5_1 + (wrap64 (t280 + 3))))) = some (r1, r2) := by first | (rw [hy305]; with_reducible exact H) | (have H2_ := (Option.bind_some _ _).symm.trans H; rw [hy305]; with_reducible exact H2_) | (have H2_ := (Option.bind_some _ _).symm.trans H; with_reducible exact H2_) | with_reducible exact H | (rw [hy305]; exact H) | exact H
                   have Ny305 := Aside0.mk hy305
                   clear hy305
                   have H' := Aside0.mk H
                   clear H
                   obtain ⟨Ao75, co75, eo75⟩ := Kd.N_slice HO_4.out
                   subst eo75
                   try go_wp2_with (first | ((with_reducible refine gate_callee (f := 43) rfl ?_); refine goesL_ (some 40) rfl rfl Try.func43 (by kernel_rfl) rfl #[.int .i64 (x4_1.length : Int), .slice none 0 0] rfl (by (try simp only [List.map_toArray, List.map_cons, List.map_nil]); first | done | rfl | (simp only [List.length_drop, List.length_take]; rfl)) ?_; (refine (kotatsuref05_Bytes.calls (x4_1.length : Int) _ _ ([] : List Int) t280 _ ?side1 ?side2 A55.out).mono ?_); (case side1 => exact Kd.C_nil _ _); (case side2 => exact Nat.le_refl _); rintro e w' ⟨rfl, ⟨nd, rfl⟩⟩; refine ⟨_, rfl, ?_⟩))
                   (try (rw [drewN_self wc]; generalize hq_ : World.drewN wc _ = wc; have n0_ : Aside0 (Kd.V (Kd.int .u8) 5 wc w.heap.size (fun k_ => (P0_ k_ ∨ w.heap.size ≤ k_) ∧ some k_ ≠ (.slice Ao75 x4_1.length co75 : Value).ownBlock) (.slice A0 l0.length c0) l0) := ⟨by rw [← hq_]; exact (by (with_reducible repeat (first | apply Kd.V_alloc | apply Kd.V_drewN | apply Kd.V_drew)); exact HO_0.out)⟩; have n1_ : Aside0 (Kd.N k69 69 wc w.heap.size (fun k_ => (P0_ k_ ∨ w.heap.size ≤ k_)) (.slice Ao75 x4_1.length co75) x4_1) := ⟨by rw [← hq_]; exact (by (with_reducible repeat (first | apply Kd.N_alloc | apply Kd.N_drewN | apply Kd.N_drew)); exact HO_4.out)⟩; have n2_ : Aside0 (Below w.heap.size w wc) := ⟨by rw [← hq_]; exact (by repeat (first | (with_reducible first | exact HB.out | apply below_alloc | apply pw_below_drewN | apply below_drew1) | exact HB.out))⟩; clear HO_0 HO_4 HB hq_; have HO_0 := n0_; have HO_4 := n1_; have HB := n2_; clear n0_ n1_ n2_))
                   have n0_ := Aside0.mk (Kd.V_drew HO_0.out)
                   have n1_ := Aside0.mk (Kd.N_drew HO_4.out)
                   have n2_ := Aside0.mk (below_drew1 HB.out)
                   clear HO_0
                   clear HO_4
                   clear HB
                   have HO_0 := n0_
                   have HO_4 := n1_
                   have HB := n2_
                   clear n0_ n1_ n2_
                   have q77 : ((wrap64 ((wrap64 (x5_1 + t280)) + 3)) : Int) ≤ ((l0.length : Int) : Int) := of_decide_eq_true (by first | (with_reducible assumption) | assumption)
                   obtain ⟨i077, hi077, _, hsz77, _⟩ := info_parts info5
                   have hroom77 : l0.length ≤ c0 := (Kd.V_reads' HO_0.out).2.1
                   have hC77 : Kd.F (Kd.int .u8) _ _ A0 l0.length l0 := (Kd.V_at (base := w.heap.size) HO_0.out).2.2
                   have ql77 : ((ji58) : Int) ≤ ((wrap64 ((wrap64 (x5_1 + t280)) + 3)) : Int) := of_decide_eq_true (by first | (with_reducible assumption) | assumption)
                   have q077 : (0 : Int) ≤ ((ji58) : Int) := of_decide_eq_true (by first | (with_reducible assumption) | assumption)
                   have hcut77 := cut_mid (P := Try.prog) 22 5 .i64 .i64 Try.underlying22 hi077 1 hsz77 A0 l0.length c0 (ji58) (wrap64 ((wrap64 (x5_1 + t280)) + 3)) q077 ql77 q77 hroom77
                   have hr77 := Kd.F_mid (lo := ((ji58) : Int).toNat) (hi := ((wrap64 ((wrap64 (x5_1 + t280)) + 3)) : Int).toNat) (c := c0) hC77 (by omega) (by omega) hroom77
                   obtain ⟨A77, hA77⟩ : ∃ A1, A1 = (if c0 = ((ji58) : Int).toNat then A0 else (A0 : Option Addr).map (·.add (((ji58) : Int).toNat * 1))) := ⟨_, rfl⟩
                   obtain ⟨c77, hc77⟩ : ∃ c1, c1 = c0 - ((ji58) : Int).toNat := ⟨_, rfl⟩
                   have hy77 : y281.length = ((wrap64 ((wrap64 (x5_1 + t280)) + 3)) : Int).toNat - ((ji58) : Int).toNat := (by rw [Ny281.out, List.length_drop, List.length_take] <;> omega)
                   rw [show ((l0).take ((wrap64 ((wrap64 (x5_1 + t280)) + 3)) : Int).toNat).drop ((ji58) : Int).toNat = y281 from Ny281.out.symm] at hr77
                   replace hr77 : Kd.F (Kd.int .u8) _ _ A77 y281.length y281 := (by rw [hA77]; exact hr77)
                   rw [← hy77, ← hA77, ← hc77] at hcut77
                   have HO285 := Aside0.mk (show Kd.V (Kd.int .u8) 5 _ w.heap.size _ (.slice A77 y281.length c77) y281 from Kd.V_mk (by rw [hy77, hc77]; exact Nat.sub_le_sub_right (Nat.le_trans (by omega) hroom77) _) hr77)
                   have HC285 := Aside0.mk (show y281.length ≤ c77 from by rw [hy77, hc77]; exact Nat.sub_le_sub_right (Nat.le_trans (by omega) hroom77) _)
                   clear hr77 hC77 hroom77 hi077 hsz77 hc77
                   have KY77 := Aside0.mk hy77
                   have KA77 := Aside0.mk hA77
                   clear hy77 hA77
                   replace q77 := eq_true q77
                   have q78 : ((ji58) : Int) ≤ ((l0.length : Int) : Int) := of_decide_eq_true (by first | (with_reducible assumption) | assumption)
                   obtain ⟨i078, hi078, _, hsz78, _⟩ := info_parts info5
                   have hroom78 : l0.length ≤ c0 := (Kd.V_reads' HO_0.out).2.1
                   have hC78 : Kd.F (Kd.int .u8) _ _ A0 l0.length l0 := (Kd.V_at (base := w.heap.size) HO_0.out).2.2
                   have ql78 : (x5_1 : Int) ≤ ((ji58) : Int) := of_decide_eq_true (by first | (with_reducible assumption) | assumption)
                   have q078 : (0 : Int) ≤ (x5_1 : Int) := of_decide_eq_true (by first | (with_reducible assumption) | assumption)
                   have hcut78 := cut_mid (P := Try.prog) 22 5 .i64 .i64 Try.underlying22 hi078 1 hsz78 A0 l0.length c0 x5_1 (ji58) q078 ql78 q78 hroom78
                   have hr78 := Kd.F_mid (lo := (x5_1 : Int).toNat) (hi := ((ji58) : Int).toNat) (c := c0) hC78 (by omega) (by omega) hroom78
                   obtain ⟨A78, hA78⟩ : ∃ A1, A1 = (if c0 = (x5_1 : Int).toNat then A0 else (A0 : Option Addr).map (·.add ((x5_1 : Int).toNat * 1))) := ⟨_, rfl⟩
                   obtain ⟨c78, hc78⟩ : ∃ c1, c1 = c0 - (x5_1 : Int).toNat := ⟨_, rfl⟩
                   have hy78 : y287.length = ((ji58) : Int).toNat - (x5_1 : Int).toNat := (by rw [Ny287.out, List.length_drop, List.length_take] <;> omega)
                   rw [show ((l0).take ((ji58) : Int).toNat).drop (x5_1 : Int).toNat = y287 from Ny287.out.symm] at hr78
                   replace hr78 : Kd.F (Kd.int .u8) _ _ A78 y287.length y287 := (by rw [hA78]; exact hr78)
                   rw [← hy78, ← hA78, ← hc78] at hcut78
                   have HO291 := Aside0.mk (show Kd.V (Kd.int .u8) 5 _ w.heap.size _ (.slice A78 y287.length c78) y287 from Kd.V_mk (by rw [hy78, hc78]; exact Nat.sub_le_sub_right (Nat.le_trans (by omega) hroom78) _) hr78)
                   have HC291 := Aside0.mk (show y287.length ≤ c78 from by rw [hy78, hc78]; exact Nat.sub_le_sub_right (Nat.le_trans (by omega) hroom78) _)
                   clear hr78 hC78 hroom78 hi078 hsz78 hc78
                   have KY78 := Aside0.mk hy78
                   have KA78 := Aside0.mk hA78
                   clear hy78 hA78
                   replace q78 := eq_true q78
                   refine start_ (n := 21) (S := fun w' => True) (ds := []) #[false, false, false, false, false, false, false, false, false, false, false, false, false, false, false, false, false, false, false, false, false] (by kernel_rfl) rfl rfl trivial (fun hHeld => ?_); refine with_tabW kotatsuref06_Unwrap.tab10 kotatsuref06_Unwrap.bits10 (fun HT_ HW_ => ?_)
                   generalize wc.drew = w76 at HO_0 HO_4 HB HO285 HO291 hHeld ⊢
                   refine pure_ (i := 0) (N := some 48) (v := ?_) (a' := ?_) #[true, false, false, false, false, false, false, false, false, false, false, false, false, false, false, false, false, false, false, false, false] rfl rfl (any_of HT_.out (by kernel_rfl)) (fun _ _ _ h => h) (Or.inl ⟨by rfl, ?_⟩) ?_ ?_
                   rotate_left
                   ·intro w'
                    go_simp
                    with_reducible rfl
                   rotate_left
                   ·simp only [Act.put, List.setIfInBounds_toArray, List.set_cons_zero, List.set_cons_succ, i64_w, i32_w]
                    rfl
                   refine pure_ (i := 1) (N := some 49) (v := ?_) (a' := ?_) #[true, true, false, false, false, false, false, false, false, false, false, false, false, false, false, false, false, false, false, false, false] rfl rfl (any_of HT_.out (by kernel_rfl)) (fun _ _ _ h => h) (Or.inl ⟨by rfl, ?_⟩) ?_ ?_
                   rotate_left
                   ·intro w'
                    go_simp
                    with_reducible rfl
                   rotate_left
                   ·simp only [Act.put, List.setIfInBounds_toArray, List.set_cons_zero, List.set_cons_succ, i64_w, i32_w]
                    rfl
                   refine pure_ (i := 2) (N := some 50) (v := ?_) (a' := ?_) #[true, true, true, false, false, false, false, false, false, false, false, false, false, false, false, false, false, false, false, false, false] rfl rfl (any_of HT_.out (by kernel_rfl)) (fun _ _ _ h => h) (Or.inl ⟨by rfl, ?_⟩) ?_ ?_
                   rotate_left
                   ·intro w'
                    go_simp
                    with_reducible rfl
                   rotate_left
                   ·simp only [Act.put, List.setIfInBounds_toArray, List.set_cons_zero, List.set_cons_succ, i64_w, i32_w]
                    rfl
                   refine pure_ (i := 3) (N := some 51) (v := ?_) (a' := ?_) #[true, true, true, true, false, false, false, false, false, false, false, false, false, false, false, false, false, false, false, false, false] rfl rfl (any_of HT_.out (by kernel_rfl)) (fun _ _ _ h => h) (Or.inl ⟨by rfl, ?_⟩) ?_ ?_
                   rotate_left
                   ·intro w'
                    go_simp
                    with_reducible rfl
                   rotate_left
                   ·simp only [Act.put, List.setIfInBounds_toArray, List.set_cons_zero, List.set_cons_succ, i64_w, i32_w]
                    rfl
                   refine pure_ (i := 4) (N := some 52) (v := ?_) (a' := ?_) #[true, true, true, true, true, false, false, false, false, false, false, false, false, false, false, false, false, false, false, false, false] rfl rfl (any_of HT_.out (by kernel_rfl)) (fun _ _ _ h => h) (Or.inl ⟨by rfl, ?_⟩) ?_ ?_
                   rotate_left
                   ·intro w'
                    go_simp
                    with_reducible rfl
                   rotate_left
                   ·simp only [Act.put, List.setIfInBounds_toArray, List.set_cons_zero, List.set_cons_succ, i64_w, i32_w]
                    rfl
                   refine pure_ (i := 5) (N := some 53) (v := ?_) (a' := ?_) #[true, true, true, true, true, true, false, false, false, false, false, false, false, false, false, false, false, false, false, false, false] rfl rfl (any_of HT_.out (by kernel_rfl)) (fun _ _ _ h => h) (Or.inl ⟨by rfl, ?_⟩) ?_ ?_
                   rotate_left
                   ·intro w'
                    go_simp
                    with_reducible rfl
                   rotate_left
                   ·simp only [Act.put, List.setIfInBounds_toArray, List.set_cons_zero, List.set_cons_succ, i64_w, i32_w]
                    rfl
                   refine pure_ (i := 6) (N := some 54) (v := ?_) (a' := ?_) #[true, true, true, true, true, true, true, false, false, false, false, false, false, false, false, false, false, false, false, false, false] rfl rfl (any_of HT_.out (by kernel_rfl)) (fun _ _ _ h => h) (Or.inl ⟨by rfl, ?_⟩) ?_ ?_
                   rotate_left
                   ·intro w'
                    go_simp
                    with_reducible rfl
                   rotate_left
                   ·simp only [Act.put, List.setIfInBounds_toArray, List.set_cons_zero, List.set_cons_succ, i64_w, i32_w]
                    rfl
                   refine pure_ (i := 7) (N := some 55) (v := ?_) (a' := ?_) #[true, true, true, true, true, true, true, true, false, false, false, false, false, false, false, false, false, false, false, false, false] rfl rfl (any_of HT_.out (by kernel_rfl)) (fun _ _ _ h => h) (Or.inl ⟨by rfl, ?_⟩) ?_ ?_
                   rotate_left
                   ·intro w'
                    go_simp
                    with_reducible rfl
                   rotate_left
                   ·simp only [Act.put, List.setIfInBounds_toArray, List.set_cons_zero, List.set_cons_succ, i64_w, i32_w]
                    rfl
                   refine pure_ (i := 8) (N := some 56) (v := ?_) (a' := ?_) #[true, true, true, true, true, true, true, true, true, false, false, false, false, false, false, false, false, false, false, false, false] rfl rfl (any_of HT_.out (by kernel_rfl)) (fun _ _ _ h => h) (Or.inl ⟨by rfl, ?_⟩) ?_ ?_
                   rotate_left
                   ·intro w'
                    go_simp
                    with_reducible rfl
                   rotate_left
                   ·simp only [Act.put, List.setIfInBounds_toArray, List.set_cons_zero, List.set_cons_succ, i64_w, i32_w]
                    rfl
                   refine pure_ (i := 9) (N := some 57) (v := ?_) (a' := ?_) #[true, true, true, true, true, true, true, true, true, true, false, false, false, false, false, false, false, false, false, false, false] rfl rfl (any_of HT_.out (by kernel_rfl)) (fun _ _ _ h => h) (Or.inl ⟨by rfl, ?_⟩) ?_ ?_
                   rotate_left
                   ·intro w'
                    go_simp
                    with_reducible rfl
                   rotate_left
                   ·simp only [Act.put, List.setIfInBounds_toArray, List.set_cons_zero, List.set_cons_succ, i64_w, i32_w]
                    rfl
                   refine pure_ (i := 11) (N := some 59) (v := ?_) (a' := ?_) #[true, true, true, true, true, true, true, true, true, true, false, true, false, false, false, false, false, false, false, false, false] rfl rfl (any_of HT_.out (by kernel_rfl)) (fun _ _ _ h => h) (Or.inl ⟨by rfl, ?_⟩) ?_ ?_
                   rotate_left
                   ·intro w'
                    go_simp
                    with_reducible rfl
                   rotate_left
                   ·simp only [Act.put, List.setIfInBounds_toArray, List.set_cons_zero, List.set_cons_succ, i64_w, i32_w]
                    rfl
                   refine pure_ (i := 12) (N := some 60) (v := ?_) (a' := ?_) #[true, true, true, true, true, true, true, true, true, true, false, true, true, false, false, false, false, false, false, false, false] rfl rfl (any_of HT_.out (by kernel_rfl)) (fun _ _ _ h => h) (Or.inl ⟨by rfl, ?_⟩) ?_ ?_
                   rotate_left
                   ·intro w'
                    go_simp
                    with_reducible rfl
                   rotate_left
                   ·simp only [Act.put, List.setIfInBounds_toArray, List.set_cons_zero, List.set_cons_succ, i64_w, i32_w]
                    rfl
                   refine pure_ (i := 13) (N := some 61) (v := ?_) (a' := ?_) #[true, true, true, true, true, true, true, true, true, true, false, true, true, true, false, false, false, false, false, false, false] rfl rfl (any_of HT_.out (by kernel_rfl)) (fun _ _ _ h => h) (Or.inl ⟨by rfl, ?_⟩) ?_ ?_
                   rotate_left
                   ·intro w'
                    go_simp
                    with_reducible rfl
                   rotate_left
                   ·simp only [Act.put, List.setIfInBounds_toArray, List.set_cons_zero, List.set_cons_succ, i64_w, i32_w]
                    rfl
                   refine pure_ (i := 14) (N := some 62) (v := ?_) (a' := ?_) #[true, true, true, true, true, true, true, true, true, true, false, true, true, true, true, false, false, false, false, false, false] rfl rfl (any_of HT_.out (by kernel_rfl)) (fun _ _ _ h => h) (Or.inl ⟨by rfl, ?_⟩) ?_ ?_
                   rotate_left
                   ·intro w'
                    go_simp
                    with_reducible rfl
                   rotate_left
                   ·simp only [Act.put, List.setIfInBounds_toArray, List.set_cons_zero, List.set_cons_succ, i64_w, i32_w]
                    rfl
                   refine pure_ (i := 15) (N := some 63) (v := ?_) (a' := ?_) #[true, true, true, true, true, true, true, true, true, true, false, true, true, true, true, true, false, false, false, false, false] rfl rfl (any_of HT_.out (by kernel_rfl)) (fun _ _ _ h => h) (Or.inl ⟨by rfl, ?_⟩) ?_ ?_
                   rotate_left
                   ·intro w'
                    go_simp
                    with_reducible rfl
                   rotate_left
                   ·simp only [Act.put, List.setIfInBounds_toArray, List.set_cons_zero, List.set_cons_succ, i64_w, i32_w]
                    rfl
                   refine pure_ (i := 16) (N := some 64) (v := ?_) (a' := ?_) #[true, true, true, true, true, true, true, true, true, true, false, true, true, true, true, true, true, false, false, false, false] rfl rfl (any_of HT_.out (by kernel_rfl)) (fun _ _ _ h => h) (Or.inl ⟨by rfl, ?_⟩) ?_ ?_
                   rotate_left
                   ·intro w'
                    go_simp
                    with_reducible rfl
                   rotate_left
                   ·simp only [Act.put, List.setIfInBounds_toArray, List.set_cons_zero, List.set_cons_succ, i64_w, i32_w]
                    rfl
                   refine pure_ (i := 17) (N := some 65) (v := ?_) (a' := ?_) #[true, true, true, true, true, true, true, true, true, true, false, true, true, true, true, true, true, true, false, false, false] rfl rfl (any_of HT_.out (by kernel_rfl)) (fun _ _ _ h => h) (Or.inl ⟨by rfl, ?_⟩) ?_ ?_
                   rotate_left
                   ·intro w'
                    go_simp
                    with_reducible rfl
                   rotate_left
                   ·simp only [Act.put, List.setIfInBounds_toArray, List.set_cons_zero, List.set_cons_succ, i64_w, i32_w]
                    rfl
                   refine one_ (i := 10) (N := some 58) #[true, true, true, true, true, true, true, true, true, true, true, true, true, true, true, true, true, true, false, false, false] rfl rfl (one_of HT_.out (by kernel_rfl)) (by decide) (fun K hK => ?_)
                   refine goes_ Try.func44 (by kernel_rfl) rfl #[.slice A77 y281.length c77] (by rfl) rfl rfl (by (try simp only [List.map_toArray, List.map_cons, List.map_nil]); first | done | rfl | (simp only [List.length_drop, List.length_take]; rfl)) ?_
                   with_reducible refine (kotatsuref02_Take.calls kj1 _ _ y281 t286 _ ?side1 ?side2 A62.out).mono ?_
                   (case side1 => repeat (first | exact (Kd.V_reads' HO285.out).2.2 | (with_reducible refine Kd.C_alloc ?_ _) | (with_reducible refine Kd.C_drewN ?_ _) | (with_reducible refine Kd.C_drew ?_)))
                   (case side2 => exact (Kd.V_reads' HO285.out).2.1)
                   rintro e w' ⟨rfl, ⟨nd, rfl⟩⟩
                   refine ⟨_, rfl, ?_⟩
                   refine hK.out _ _ trivial (fun hHeld => ?_)
                   clear hK K
                   refine norm_ (a' := ?_) ?_ ?_
                   rotate_left
                   ·show Act.put _ (some 58) _ = _
                    simp only [Act.put, List.setIfInBounds_toArray, List.set_cons_zero, List.set_cons_succ, i64_w, i32_w]
                    rfl
                   refine one_ (i := 18) (N := some 66) #[true, true, true, true, true, true, true, true, true, true, true, true, true, true, true, true, true, true, true, false, false] rfl rfl (one_of HT_.out (by kernel_rfl)) (by decide) (fun K hK => ?_)
                   refine goes_ Try.func37 (by kernel_rfl) rfl #[.slice A78 y287.length c78] (by rfl) rfl rfl (by (try simp only [List.map_toArray, List.map_cons, List.map_nil]); first | done | rfl | (simp only [List.length_drop, List.length_take]; rfl)) ?_
                   with_reducible refine (kotatsuref02_Short.calls kj1 (fun k_ => ((P0_ k_ ∨ w.heap.size ≤ k_) ∧ some k_ ≠ (.slice Ao75 x4_1.length co75 : Value).ownBlock)) _ _ y287 t292 _ ?side1 A66.out).mono ?_
                   (case side1 => exact HO291.out)
                   rintro e w79 ⟨rfl, hb⟩
                   refine ⟨_, rfl, ?_⟩
                   have n0_ := Aside0.mk (Kd.V_below (by (with_reducible repeat (first | apply Kd.V_alloc | apply Kd.V_drewN | apply Kd.V_drew)); exact HO_0.out) hb)
                   have n1_ := Aside0.mk (Kd.N_below (by (with_reducible repeat (first | apply Kd.N_alloc | apply Kd.N_drewN | apply Kd.N_drew)); exact HO_4.out) hb)
                   have n2_ := Aside0.mk (Kd.V_below (by (with_reducible repeat (first | apply Kd.V_alloc | apply Kd.V_drewN | apply Kd.V_drew)); exact HO285.out) hb)
                   have n3_ := Aside0.mk (Kd.V_below (by (with_reducible repeat (first | apply Kd.V_alloc | apply Kd.V_drewN | apply Kd.V_drew)); exact HO291.out) hb)
                   have n4_ := Aside0.mk (below_step (by repeat (first | (with_reducible first | exact HB.out | apply below_alloc | apply pw_below_drewN | apply below_drew1) | exact HB.out)) hb)
                   clear HO_0
                   clear HO_4
                   clear HO285
                   clear HO291
                   clear HB
                   have HO_0 := n0_
                   have HO_4 := n1_
                   have HO285 := n2_
                   have HO291 := n3_
                   have HB := n4_
                   clear n0_ n1_ n2_ n3_ n4_
                   (try clear hb)
                   (try clear hb2)
                   (try clear hk)
                   (try clear hi)
                   refine hK.out _ _ trivial (fun hHeld => ?_)
                   clear hK K
                   refine norm_ (a' := ?_) ?_ ?_
                   rotate_left
                   ·show Act.put _ (some 66) _ = _
                    simp only [Act.put, List.setIfInBounds_toArray, List.set_cons_zero, List.set_cons_succ, i64_w, i32_w]
                    rfl
                   refine pure_ (i := 19) (N := some 67) (v := ?_) (a' := ?_) #[true, true, true, true, true, true, true, true, true, true, true, true, true, true, true, true, true, true, true, true, false] rfl rfl (any_of HT_.out (by kernel_rfl)) (fun _ _ _ h => h) (Or.inl ⟨by rfl, ?_⟩) ?_ ?_
                   rotate_left
                   ·intro w'
                    go_simp
                    with_reducible rfl
                   rotate_left
                   ·simp only [Act.put, List.setIfInBounds_toArray, List.set_cons_zero, List.set_cons_succ, i64_w, i32_w]
                    rfl
                   refine pure_ (i := 20) (N := some 68) (v := ?_) (a' := ?_) #[true, true, true, true, true, true, true, true, true, true, true, true, true, true, true, true, true, true, true, true, true] rfl rfl (any_of HT_.out (by kernel_rfl)) (fun _ _ _ h => h) (Or.inl ⟨by rfl, ?_⟩) ?_ ?_
                   rotate_left
                   ·intro w'
                    go_simp
                    with_reducible rfl
                   rotate_left
                   ·simp only [Act.put, List.setIfInBounds_toArray, List.set_cons_zero, List.set_cons_succ, i64_w, i32_w]
                    rfl
                   refine done_ (done_of HT_.out (by kernel_rfl)) ?_
                   try go_wp2
                   have n0_ := Aside0.mk (Kd.V_drew HO_0.out)
                   have n1_ := Aside0.mk (Kd.N_drew HO_4.out)
                   have n2_ := Aside0.mk (Kd.V_drew HO285.out)
                   have n3_ := Aside0.mk (Kd.V_drew HO291.out)
                   have n4_ := Aside0.mk (below_drew1 HB.out)
                   clear HO_0
                   clear HO_4
                   clear HO285
                   clear HO291
                   clear HB
                   have HO_0 := n0_
                   have HO_4 := n1_
                   have HO285 := n2_
                   have HO291 := n3_
                   have HB := n4_
                   clear n0_ n1_ n2_ n3_ n4_
                   have p293 : 0 ≤ (x5_1 : Int) := of_decide_eq_true (by first | (with_reducible assumption) | assumption)
                   have q293 : x5_1 < (l0.length : Int) := of_decide_eq_true (by first | (with_reducible assumption) | assumption)
                   obtain ⟨ad293, e293, hx293_0⟩ := Kd.at_int (Kd.V_reads' HO_0.out).2.2 x5_1 p293 q293
                   cases e293
                   replace p293 := eq_true p293
                   replace q293 := eq_true q293
                   have q81 : ((ji58) : Int) ≤ ((l0.length : Int) : Int) := of_decide_eq_true (by first | (with_reducible assumption) | assumption)
                   obtain ⟨i081, hi081, _, hsz81, _⟩ := info_parts info5
                   have hroom81 : l0.length ≤ c0 := (Kd.V_reads' HO_0.out).2.1
                   have hC81 : Kd.F (Kd.int .u8) _ _ (some ad293) l0.length l0 := (Kd.V_at (base := w.heap.size) HO_0.out).2.2
                   have ql81 : ((ji69) : Int) ≤ ((ji58) : Int) := of_decide_eq_true (by first | (with_reducible assumption) | assumption)
                   have q081 : (0 : Int) ≤ ((ji69) : Int) := of_decide_eq_true (by first | (with_reducible assumption) | assumption)
                   have hcut81 := cut_mid (P := Try.prog) 22 5 .i64 .i64 Try.underlying22 hi081 1 hsz81 (some ad293) l0.length c0 (ji69) (ji58) q081 ql81 q81 hroom81
                   have hr81 := Kd.F_mid (lo := ((ji69) : Int).toNat) (hi := ((ji58) : Int).toNat) (c := c0) hC81 (by omega) (by omega) hroom81
                   obtain ⟨A81, hA81⟩ : ∃ A1, A1 = (if c0 = ((ji69) : Int).toNat then (some ad293) else ((some ad293) : Option Addr).map (·.add (((ji69) : Int).toNat * 1))) := ⟨_, rfl⟩
                   obtain ⟨c81, hc81⟩ : ∃ c1, c1 = c0 - ((ji69) : Int).toNat := ⟨_, rfl⟩
                   have hy81 : y294.length = ((ji58) : Int).toNat - ((ji69) : Int).toNat := (by rw [Ny294.out, List.length_drop, List.length_take] <;> omega)
                   rw [show ((l0).take ((ji58) : Int).toNat).drop ((ji69) : Int).toNat = y294 from Ny294.out.symm] at hr81
                   replace hr81 : Kd.F (Kd.int .u8) _ _ A81 y294.length y294 := (by rw [hA81]; exact hr81)
                   rw [← hy81, ← hA81, ← hc81] at hcut81
                   have HO298 := Aside0.mk (show Kd.V (Kd.int .u8) 5 _ w.heap.size _ (.slice A81 y294.length c81) y294 from Kd.V_mk (by rw [hy81, hc81]; exact Nat.sub_le_sub_right (Nat.le_trans (by omega) hroom81) _) hr81)
                   have HC298 := Aside0.mk (show y294.length ≤ c81 from by rw [hy81, hc81]; exact Nat.sub_le_sub_right (Nat.le_trans (by omega) hroom81) _)
                   clear hr81 hC81 hroom81 hi081 hsz81 hc81
                   have KY81 := Aside0.mk hy81
                   have KA81 := Aside0.mk hA81
                   clear hy81 hA81
                   replace q81 := eq_true q81
                   refine start_ (n := 19) (S := fun w' => w'.cell? (ad293.add (x5_1).toNat) = some (.int .u8 (rd l0 x5_1))) (ds := [16, 17]) #[false, false, false, false, false, false, false, false, false, false, false, false, false, false, false, false, false, false, false] (by kernel_rfl) rfl rfl (hx293_0) (fun hHeld => ?_); refine with_tabW kotatsuref06_Unwrap.tab12 kotatsuref06_Unwrap.bits12 (fun HT_ HW_ => ?_)
                   generalize w79.drew = w80 at HO_0 HO_4 HO285 HO291 HB HO298 hx293_0 hHeld ⊢
                   refine pure_ (i := 0) (N := some 69) (v := ?_) (a' := ?_) #[true, false, false, false, false, false, false, false, false, false, false, false, false, false, false, false, false, false, false] rfl rfl (any_of HT_.out (by kernel_rfl)) (fun _ _ _ h => h) (Or.inl ⟨by rfl, ?_⟩) ?_ ?_
                   rotate_left
                   ·intro w'
                    go_simp
                    with_reducible rfl
                   rotate_left
                   ·simp only [Act.put, List.setIfInBounds_toArray, List.set_cons_zero, List.set_cons_succ, i64_w, i32_w]
                    rfl
                   refine pure_ (i := 1) (N := some 70) (v := ?_) (a' := ?_) #[true, true, false, false, false, false, false, false, false, false, false, false, false, false, false, false, false, false, false] rfl rfl (any_of HT_.out (by kernel_rfl)) (fun _ _ _ h => h) (Or.inl ⟨by rfl, ?_⟩) ?_ ?_
                   rotate_left
                   ·intro w'
                    go_simp
                    with_reducible rfl
                   rotate_left
                   ·simp only [Act.put, List.setIfInBounds_toArray, List.set_cons_zero, List.set_cons_succ, i64_w, i32_w]
                    rfl
                   refine pure_ (i := 2) (N := some 71) (v := ?_) (a' := ?_) #[true, true, true, false, false, false, false, false, false, false, false, false, false, false, false, false, false, false, false] rfl rfl (any_of HT_.out (by kernel_rfl)) (fun _ _ _ h => h) (Or.inl ⟨by rfl, ?_⟩) ?_ ?_
                   rotate_left
                   ·intro w'
                    go_simp
                    with_reducible rfl
                   rotate_left
                   ·simp only [Act.put, List.setIfInBounds_toArray, List.set_cons_zero, List.set_cons_succ, i64_w, i32_w]
                    rfl
                   refine pure_ (i := 3) (N := some 72) (v := ?_) (a' := ?_) #[true, true, true, true, false, false, false, false, false, false, false, false, false, false, false, false, false, false, false] rfl rfl (any_of HT_.out (by kernel_rfl)) (fun _ _ _ h => h) (Or.inl ⟨by rfl, ?_⟩) ?_ ?_
                   rotate_left
                   ·intro w'
                    go_simp
                    with_reducible rfl
                   rotate_left
                   ·simp only [Act.put, List.setIfInBounds_toArray, List.set_cons_zero, List.set_cons_succ, i64_w, i32_w]
                    rfl
                   refine pure_ (i := 5) (N := some 74) (v := ?_) (a' := ?_) #[true, true, true, true, false, true, false, false, false, false, false, false, false, false, false, false, false, false, false] rfl rfl (any_of HT_.out (by kernel_rfl)) (fun _ _ _ h => h) (Or.inl ⟨by rfl, ?_⟩) ?_ ?_
                   rotate_left
                   ·intro w'
                    go_simp
                    with_reducible rfl
                   rotate_left
                   ·simp only [Act.put, List.setIfInBounds_toArray, List.set_cons_zero, List.set_cons_succ, i64_w, i32_w]
                    rfl
                   refine pure_ (i := 6) (N := some 75) (v := ?_) (a' := ?_) #[true, true, true, true, false, true, true, false, false, false, false, false, false, false, false, false, false, false, false] rfl rfl (any_of HT_.out (by kernel_rfl)) (fun _ _ _ h => h) (Or.inl ⟨by rfl, ?_⟩) ?_ ?_
                   rotate_left
                   ·intro w'
                    go_simp
                    with_reducible rfl
                   rotate_left
                   ·simp only [Act.put, List.setIfInBounds_toArray, List.set_cons_zero, List.set_cons_succ, i64_w, i32_w]
                    rfl
                   refine pure_ (i := 7) (N := some 76) (v := ?_) (a' := ?_) #[true, true, true, true, false, true, true, true, false, false, false, false, false, false, false, false, false, false, false] rfl rfl (any_of HT_.out (by kernel_rfl)) (fun _ _ _ h => h) (Or.inl ⟨by rfl, ?_⟩) ?_ ?_
                   rotate_left
                   ·intro w'
                    go_simp
                    with_reducible rfl
                   rotate_left
                   ·simp only [Act.put, List.setIfInBounds_toArray, List.set_cons_zero, List.set_cons_succ, i64_w, i32_w]
                    rfl
                   refine pure_ (i := 8) (N := some 77) (v := ?_) (a' := ?_) #[true, true, true, true, false, true, true, true, true, false, false, false, false, false, false, false, false, false, false] rfl rfl (any_of HT_.out (by kernel_rfl)) (fun _ _ _ h => h) (Or.inl ⟨by rfl, ?_⟩) ?_ ?_
                   rotate_left
                   ·intro w'
                    go_simp
                    with_reducible rfl
                   rotate_left
                   ·simp only [Act.put, List.setIfInBounds_toArray, List.set_cons_zero, List.set_cons_succ, i64_w, i32_w]
                    rfl
                   refine pure_ (i := 9) (N := some 78) (v := ?_) (a' := ?_) #[true, true, true, true, false, true, true, true, true, true, false, false, false, false, false, false, false, false, false] rfl rfl (any_of HT_.out (by kernel_rfl)) (fun _ _ _ h => h) (Or.inl ⟨by rfl, ?_⟩) ?_ ?_
                   rotate_left
                   ·intro w'
                    go_simp
                    with_reducible rfl
                   rotate_left
                   ·simp only [Act.put, List.setIfInBounds_toArray, List.set_cons_zero, List.set_cons_succ, i64_w, i32_w]
                    rfl
                   refine pure_ (i := 10) (N := some 79) (v := ?_) (a' := ?_) #[true, true, true, true, false, true, true, true, true, true, true, false, false, false, false, false, false, false, false] rfl rfl (any_of HT_.out (by kernel_rfl)) (fun _ _ _ h => h) (Or.inl ⟨by rfl, ?_⟩) ?_ ?_
                   rotate_left
                   ·intro w'
                    go_simp
                    with_reducible rfl
                   rotate_left
                   ·simp only [Act.put, List.setIfInBounds_toArray, List.set_cons_zero, List.set_cons_succ, i64_w, i32_w]
                    rfl
                   refine pure_ (i := 11) (N := some 80) (v := ?_) (a' := ?_) #[true, true, true, true, false, true, true, true, true, true, true, true, false, false, false, false, false, false, false] rfl rfl (any_of HT_.out (by kernel_rfl)) (fun _ _ _ h => h) (Or.inl ⟨by rfl, ?_⟩) ?_ ?_
                   rotate_left
                   ·intro w'
                    go_simp
                    with_reducible rfl
                   rotate_left
                   ·simp only [Act.put, List.setIfInBounds_toArray, List.set_cons_zero, List.set_cons_succ, i64_w, i32_w]
                    rfl
                   refine pure_ (i := 12) (N := some 81) (v := ?_) (a' := ?_) #[true, true, true, true, false, true, true, true, true, true, true, true, true, false, false, false, false, false, false] rfl rfl (any_of HT_.out (by kernel_rfl)) (fun _ _ _ h => h) (Or.inl ⟨by rfl, ?_⟩) ?_ ?_
                   rotate_left
                   ·intro w'
                    go_simp
                    with_reducible rfl
                   rotate_left
                   ·simp only [Act.put, List.setIfInBounds_toArray, List.set_cons_zero, List.set_cons_succ, i64_w, i32_w]
                    rfl
                   refine take_ (i := 4) (N := some 73) (v := ?_) (a' := ?_) #[true, true, true, true, true, true, true, true, true, true, true, true, true, false, false, false, false, false, false] rfl rfl (take_ofW HT_.out HW_.out (by kernel_rfl)) (fun _ _ _ h => h) (Or.inl ⟨by rfl, ?_⟩) hHeld ?_ ?_
                   rotate_left
                   ·intro w' s0
                    go_simp
                    with_reducible rfl
                   rotate_left
                   ·simp only [Act.put, List.setIfInBounds_toArray, List.set_cons_zero, List.set_cons_succ, i64_w, i32_w]
                    rfl
                   refine one_ (i := 13) (N := some 82) #[true, true, true, true, true, true, true, true, true, true, true, true, true, true, false, false, false, false, false] rfl rfl (one_of HT_.out (by kernel_rfl)) (by decide) (fun K hK => ?_)
                   refine Kd.N_lit_step (Kd.slice 5 (Kd.int .u8)) _ 22 ?hg (N' := 82) ?hd (xs := ([y294] : List (List Int))) (inner := [.slice A81 y294.length c81]) (ok := (fun k_ => (P0_ k_ ∨ w.heap.size ≤ k_) ∧ some k_ ≠ (.slice Ao75 x4_1.length co75 : Value).ownBlock)) (okp := (fun k_ => (P0_ k_ ∨ w.heap.size ≤ k_) ∧ some k_ ≠ (.slice Ao75 x4_1.length co75 : Value).ownBlock)) ?hr ?hp (fun _ hk => hk) ((show ∀ k_, w80.heap.size ≤ k_ → (fun k_ => (P0_ k_ ∨ w.heap.size ≤ k_) ∧ some k_ ≠ (.slice Ao75 x4_1.length co75 : Value).ownBlock) k_ from fun k_ hk => ⟨(.inr (Nat.le_trans (below_size (by repeat (first | (with_reducible first | exact HB.out | apply below_alloc | apply pw_below_drewN | apply below_drew1) | exact HB.out))) hk)), Kd.fresh' (Kd.N_lt (by (with_reducible repeat (first | apply Kd.N_alloc | apply Kd.N_drewN | apply Kd.N_drew)); exact HO_4.out)) k_ hk⟩) _ (Nat.le_refl _)) (Below.refl _ _) (Nat.le_refl _) (by simp) ?_; (case hd => rfl); (case hg => rfl); (case hr => first | (go_simp; done) | (go_simp; rfl)); (case hp => exact (Reps.one (show Kd.FK (Kd.slice 5 (Kd.int .u8)) _ _ y294 [.slice A81 y294.length c81] from (Kd.FK_slice_mk (Kd.V_reads' (e := 5) (base := w.heap.size) (Kd.V_mono (e := 5) (base := w.heap.size) (ok' := (fun k_ => (P0_ k_ ∨ w.heap.size ≤ k_) ∧ some k_ ≠ (.slice Ao75 x4_1.length co75 : Value).ownBlock)) (HO298.out) (fun k_ hk => ⟨hk.1, hk.2⟩))).2.1 (Kd.V_F (e := 5) (base := w.heap.size) (Kd.V_mono (e := 5) (base := w.heap.size) (ok' := (fun k_ => (P0_ k_ ∨ w.heap.size ≤ k_) ∧ some k_ ≠ (.slice Ao75 x4_1.length co75 : Value).ownBlock)) (HO298.out) (fun k_ hk => ⟨hk.1, hk.2⟩))))) (Reps.none _ _)))
                   intro v300 w82 ho83 hb hg_ hnew_
                   have HS0_ := (hb.cell (World.block_lt_of_cell? _ _ (hHeld))).trans (hHeld)
                   clear hg_ hnew_
                   (first | rw [← Ny299.out] at ho83 | (simp only [Int.reduceToNat] at ho83; rw [← Ny299.out] at ho83))
                   have n0_ := Aside0.mk (Kd.V_elder' (by (with_reducible repeat (first | apply Kd.V_alloc | apply Kd.V_drewN | apply Kd.V_drew)); exact HO_0.out) (Kd.N_base ho83) hb)
                   have n1_ := Aside0.mk (Kd.N_elder' (by (with_reducible repeat (first | apply Kd.N_alloc | apply Kd.N_drewN | apply Kd.N_drew)); exact HO_4.out) (Kd.N_base ho83) hb)
                   have n2_ := Aside0.mk (Kd.V_elder' (by (with_reducible repeat (first | apply Kd.V_alloc | apply Kd.V_drewN | apply Kd.V_drew)); exact HO285.out) (Kd.N_base ho83) hb)
                   have n3_ := Aside0.mk (Kd.V_elder' (by (with_reducible repeat (first | apply Kd.V_alloc | apply Kd.V_drewN | apply Kd.V_drew)); exact HO291.out) (Kd.N_base ho83) hb)
                   have n4_ := Aside0.mk (Kd.V_elder' (by (with_reducible repeat (first | apply Kd.V_alloc | apply Kd.V_drewN | apply Kd.V_drew)); exact HO298.out) (Kd.N_base ho83) hb)
                   have n5_ := Aside0.mk (Kd.N_lower ho83 (below_size (by repeat (first | (with_reducible first | exact HB.out | apply below_alloc | apply pw_below_drewN | apply below_drew1) | exact HB.out))))
                   have n6_ := Aside0.mk (below_step (by repeat (first | (with_reducible first | exact HB.out | apply below_alloc | apply pw_below_drewN | apply below_drew1) | exact HB.out)) hb)
                   clear HO_0
                   clear HO_4
                   clear HO285
                   clear HO291
                   clear HO298
                   clear HB
                   have HO_0 := n0_
                   have HO_4 := n1_
                   have HO285 := n2_
                   have HO291 := n3_
                   have HO298 := n4_
                   have HO301 := n5_
                   have HB := n6_
                   clear n0_ n1_ n2_ n3_ n4_ n5_ n6_
                   clear hb ho83
                   obtain ⟨Ao84, co84, eo84⟩ := Kd.N_slice HO301.out
                   (first | subst eo84 | (injection eo84 with f1_ f2_ f3_; have f4_ := f1_.symm; have f5_ := f3_.symm; clear f1_ f2_ f3_; subst f4_; subst f5_))
                   refine hK.out _ _ (HS0_) (fun hHeld => ?_)
                   clear hK K
                   refine norm_ (a' := ?_) ?_ ?_
                   rotate_left
                   ·show Act.put _ (some 82) _ = _
                    simp only [Act.put, List.setIfInBounds_toArray, List.set_cons_zero, List.set_cons_succ, i64_w, i32_w]
                    rfl
                   refine one_ (i := 14) (N := some 83) #[true, true, true, true, true, true, true, true, true, true, true, true, true, true, true, false, false, false, false] rfl rfl (one_of HT_.out (by kernel_rfl)) (by decide) (fun K hK => ?_)
                   refine goes_ Try.func11 (by kernel_rfl) rfl #[.slice Ao84 y299.length co84] (by rfl) rfl rfl (by (try simp only [List.map_toArray, List.map_cons, List.map_nil]); first | done | rfl | (simp only [List.length_drop, List.length_take]; rfl)) ?_
                   with_reducible refine (kotatsuref01_Join.calls kj1 _ _ y299 t302 _ ?side1 ?side2 A73.out).mono ?_
                   (case side1 => repeat (first | exact (Kd.N_reads' HO301.out).2.2 | (with_reducible refine Kd.C_alloc ?_ _) | (with_reducible refine Kd.C_drewN ?_ _) | (with_reducible refine Kd.C_drew ?_)))
                   (case side2 => exact (Kd.N_reads' HO301.out).2.1)
                   rintro e w85 ⟨v303, rfl, ho0, hb⟩
                   have HS0_ := (hb.cell (World.block_lt_of_cell? _ _ (hHeld))).trans (hHeld)
                   refine ⟨_, rfl, ?_⟩
                   have n0_ := Aside0.mk (Kd.V_elder' (by (with_reducible repeat (first | apply Kd.V_alloc | apply Kd.V_drewN | apply Kd.V_drew)); exact HO_0.out) (Kd.R_base ho0) hb)
                   have n1_ := Aside0.mk (Kd.N_elder' (by (with_reducible repeat (first | apply Kd.N_alloc | apply Kd.N_drewN | apply Kd.N_drew)); exact HO_4.out) (Kd.R_base ho0) hb)
                   have n2_ := Aside0.mk (Kd.V_elder' (by (with_reducible repeat (first | apply Kd.V_alloc | apply Kd.V_drewN | apply Kd.V_drew)); exact HO285.out) (Kd.R_base ho0) hb)
                   have n3_ := Aside0.mk (Kd.V_elder' (by (with_reducible repeat (first | apply Kd.V_alloc | apply Kd.V_drewN | apply Kd.V_drew)); exact HO291.out) (Kd.R_base ho0) hb)
                   have n4_ := Aside0.mk (Kd.V_elder' (by (with_reducible repeat (first | apply Kd.V_alloc | apply Kd.V_drewN | apply Kd.V_drew)); exact HO298.out) (Kd.R_base ho0) hb)
                   have n5_ := Aside0.mk (Kd.N_elder' (by (with_reducible repeat (first | apply Kd.N_alloc | apply Kd.N_drewN | apply Kd.N_drew)); exact HO301.out) (Kd.R_base ho0) hb)
                   have n6_ := Aside0.mk (Kd.R_lower (Kd.R_newM (M := fun k_ => (w.heap.size ≤ k_)) ho0 (below_size (by repeat (first | (with_reducible first | exact HB.out | apply below_alloc | apply pw_below_drewN | apply below_drew1) | exact HB.out))) (fun k_ h_ => h_)) (below_size (by repeat (first | (with_reducible first | exact HB.out | apply below_alloc | apply pw_below_drewN | apply below_drew1) | exact HB.out))))
                   have n7_ := Aside0.mk (below_step (by repeat (first | (with_reducible first | exact HB.out | apply below_alloc | apply pw_below_drewN | apply below_drew1) | exact HB.out)) hb)
                   clear HO_0
                   clear HO_4
                   clear HO285
                   clear HO291
                   clear HO298
                   clear HO301
                   clear HB
                   have HO_0 := n0_
                   have HO_4 := n1_
                   have HO285 := n2_
                   have HO291 := n3_
                   have HO298 := n4_
                   have HO301 := n5_
                   have HO304 := n6_
                   have HB := n7_
                   clear n0_ n1_ n2_ n3_ n4_ n5_ n6_ n7_
                   (try clear hb)
                   (try clear hb2)
                   (try clear hk)
                   (try clear hi)
                   (try clear ho0)
                   obtain ⟨Ao86, co86, eo86⟩ := Kd.R_slice HO304.out
                   (first | subst eo86 | (injection eo86 with f1_ f2_ f3_; have f4_ := f1_.symm; have f5_ := f3_.symm; clear f1_ f2_ f3_; subst f4_; subst f5_))
                   refine hK.out _ _ (HS0_) (fun hHeld => ?_)
                   clear hK K
                   refine norm_ (a' := ?_) ?_ ?_
                   rotate_left
                   ·show Act.put _ (some 83) _ = _
                    simp only [Act.put, List.setIfInBounds_toArray, List.set_cons_zero, List.set_cons_succ, i64_w, i32_w]
                    rfl
                   refine pure_ (i := 15) (N := some 84) (v := ?_) (a' := ?_) #[true, true, true, true, true, true, true, true, true, true, true, true, true, true, true, true, false, false, false] rfl rfl (any_of HT_.out (by kernel_rfl)) (fun _ _ _ h => h) (Or.inl ⟨by rfl, ?_⟩) ?_ ?_
                   rotate_left
                   ·intro w'
                    go_simp
                    with_reducible rfl
                   rotate_left
                   ·simp only [Act.put, List.setIfInBounds_toArray, List.set_cons_zero, List.set_cons_succ, i64_w, i32_w]
                    rfl
                   refine last_ (i := 16) (N := some 85) #[true, true, true, true, true, true, true, true, true, true, true, true, true, true, true, true, true, false, false] rfl rfl (one_of HT_.out (by kernel_rfl)) (by decide) (fun K hK => ?_)
                   refine value_ (w1 := ?_) (v := ?_) (by rfl) rfl ?_ ?_
                   rotate_left 2
                   ·go_simp
                    constructor
                    ·rfl
                    ·rfl
                   refine hK.out _ _ ?_
                   clear hK K
                   refine norm_ (a' := ?_) ?_ ?_
                   rotate_left
                   ·show Act.put _ (some 85) _ = _
                    simp only [Act.put, List.setIfInBounds_toArray, List.set_cons_zero, List.set_cons_succ, i64_w, i32_w]
                    rfl
                   refine last_ (i := 17) (N := some 86) #[true, true, true, true, true, true, true, true, true, true, true, true, true, true, true, true, true, true, false] rfl rfl (one_of HT_.out (by kernel_rfl)) (by decide) (fun K hK => ?_)
                   refine Kd.N_append_step k69 (w0 := w) w.heap.size (by rfl) (.tmp 69) (.tmp 85) 43 69 (.agg #[(.int .u8 0), (.slice none 0 0)]) 32 rfl Try.underlying43 info69 rfl (by decide) (by omega) (.slice Ao75 x4_1.length co75) x4_1 (⟨rd l0 x5_1, t302⟩ : S69) [.int .u8 (rd l0 x5_1), .slice Ao86 t302.length co86] (fun k_ => (P0_ k_ ∨ w.heap.size ≤ k_) ∧ some k_ ≠ (.slice Ao84 y299.length co84 : Value).ownBlock) (fun k_ => ((fun k_ => (P0_ k_ ∨ w.heap.size ≤ k_) ∧ some k_ ≠ (.slice Ao84 y299.length co84 : Value).ownBlock)) k_ ∧ some k_ ≠ (.slice Ao75 x4_1.length co75 : Value).ownBlock) rfl rfl ?aP (fun _ hk => hk) ?aF ?aO ?aB ?aS ?aL ?_
                   (case aP => exact (k69_mkF _ _ (⟨rd l0 x5_1, t302⟩ : S69) (Kd.R_reads' (Kd.R_mono (ok' := (fun k_ => ((fun k_ => (P0_ k_ ∨ w.heap.size ≤ k_) ∧ some k_ ≠ (.slice Ao84 y299.length co84 : Value).ownBlock)) k_ ∧ some k_ ≠ (.slice Ao75 x4_1.length co75 : Value).ownBlock)) (Kd.R_apart' (Kd.R_apart' (HO304.out) (Kd.N_typed HO301.out) (by decide)) (Kd.N_typed HO_4.out) (by decide)) (fun k_ hk => ⟨⟨(.inr (hk.1.1.1)), hk.1.2⟩, hk.2⟩))).2.1 (Kd.R_F (Kd.R_mono (ok' := (fun k_ => ((fun k_ => (P0_ k_ ∨ w.heap.size ≤ k_) ∧ some k_ ≠ (.slice Ao84 y299.length co84 : Value).ownBlock)) k_ ∧ some k_ ≠ (.slice Ao75 x4_1.length co75 : Value).ownBlock)) (Kd.R_apart' (Kd.R_apart' (HO304.out) (Kd.N_typed HO301.out) (by decide)) (Kd.N_typed HO_4.out) (by decide)) (fun k_ hk => ⟨⟨(.inr (hk.1.1.1)), hk.1.2⟩, hk.2⟩)))))
                   (case aB => exact (by repeat (first | (with_reducible first | exact HB.out | apply below_alloc | apply pw_below_drewN | apply below_drew1) | exact HB.out)))
                   (case aF => exact (fun k_ hk => ⟨(.inr (Nat.le_trans (below_size (by repeat (first | (with_reducible first | exact HB.out | apply below_alloc | apply pw_below_drewN | apply below_drew1) | exact HB.out))) hk)), Kd.fresh' (Kd.N_lt (by (with_reducible repeat (first | apply Kd.N_alloc | apply Kd.N_drewN | apply Kd.N_drew)); exact HO301.out)) k_ hk⟩))
                   (case aO => exact (by (with_reducible repeat (first | apply Kd.N_alloc | apply Kd.N_drewN | apply Kd.N_drew)); exact Kd.N_mono HO_4.out (fun _ hk => ⟨hk.1.1, hk.1.2⟩)))
                   (case aS => exact (below_size (by repeat (first | (with_reducible first | exact HB.out | apply below_alloc | apply pw_below_drewN | apply below_drew1) | exact HB.out))))
                   (case aL => have := LMc74.out; omega)
                   intro v306 w87 ho hb hg hat
                   rw [← Ny305.out] at ho
                   have n0_ := Aside0.mk (Kd.V_afterv (ok := (fun k_ => (P0_ k_ ∨ w.heap.size ≤ k_) ∧ some k_ ≠ (.slice Ao84 y299.length co84 : Value).ownBlock ∧ some k_ ≠ (.slice Ao86 t302.length co86 : Value).ownBlock)) (by (with_reducible repeat (first | apply Kd.V_alloc | apply Kd.V_drewN | apply Kd.V_drew)); exact Kd.V_mono HO_0.out (fun _ hk => ⟨⟨hk.1.1.1, ⟨hk.1.2, hk.2⟩⟩, hk.1.1.2⟩)) hg hat)
                   have n1_ := Aside0.mk (Kd.V_afterv (ok := (fun k_ => (P0_ k_ ∨ w.heap.size ≤ k_) ∧ some k_ ≠ (.slice Ao84 y299.length co84 : Value).ownBlock ∧ some k_ ≠ (.slice Ao86 t302.length co86 : Value).ownBlock)) (by (with_reducible repeat (first | apply Kd.V_alloc | apply Kd.V_drewN | apply Kd.V_drew)); exact Kd.V_mono HO285.out (fun _ hk => ⟨⟨hk.1.1.1, ⟨hk.1.2, hk.2⟩⟩, hk.1.1.2⟩)) hg hat)
                   have n2_ := Aside0.mk (Kd.V_afterv (ok := (fun k_ => (P0_ k_ ∨ w.heap.size ≤ k_) ∧ some k_ ≠ (.slice Ao84 y299.length co84 : Value).ownBlock ∧ some k_ ≠ (.slice Ao86 t302.length co86 : Value).ownBlock)) (by (with_reducible repeat (first | apply Kd.V_alloc | apply Kd.V_drewN | apply Kd.V_drew)); exact Kd.V_mono HO291.out (fun _ hk => ⟨⟨hk.1.1.1, ⟨hk.1.2, hk.2⟩⟩, hk.1.1.2⟩)) hg hat)
                   have n3_ := Aside0.mk (Kd.V_afterv (ok := (fun k_ => (P0_ k_ ∨ w.heap.size ≤ k_) ∧ some k_ ≠ (.slice Ao84 y299.length co84 : Value).ownBlock ∧ some k_ ≠ (.slice Ao86 t302.length co86 : Value).ownBlock)) (by (with_reducible repeat (first | apply Kd.V_alloc | apply Kd.V_drewN | apply Kd.V_drew)); exact Kd.V_mono HO298.out (fun _ hk => ⟨⟨hk.1.1.1, ⟨hk.1.2, hk.2⟩⟩, hk.1.1.2⟩)) hg hat)
                   have n4_ := Aside0.mk (Kd.N_afterv (ok := (fun k_ => (P0_ k_ ∨ w.heap.size ≤ k_) ∧ some k_ ≠ (.slice Ao86 t302.length co86 : Value).ownBlock)) (by (with_reducible repeat (first | apply Kd.N_alloc | apply Kd.N_drewN | apply Kd.N_drew)); exact Kd.N_mono HO301.out (fun _ hk => ⟨⟨hk.1.1, hk.2⟩, hk.1.2⟩)) hg hat)
                   have n5_ := Aside0.mk (hb)
                   have n6_ := Aside0.mk (ho)
                   clear HO_0
                   clear HO285
                   clear HO291
                   clear HO298
                   clear HO301
                   clear HB
                   clear HO_4
                   clear HO304
                   have HO_0 := n0_
                   have HO285 := n1_
                   have HO291 := n2_
                   have HO298 := n3_
                   have HO301 := n4_
                   have HB := n5_
                   have HO307 := n6_
                   clear n0_ n1_ n2_ n3_ n4_ n5_ n6_
                   clear ho hb hg hat
                   refine hK.out _ _ ?_
                   clear hK K
                   refine norm_ (a' := ?_) ?_ ?_
                   rotate_left
                   ·show Act.put _ (some 86) _ = _
                    simp only [Act.put, List.setIfInBounds_toArray, List.set_cons_zero, List.set_cons_succ, i64_w, i32_w]
                    rfl
                   refine pure_ (i := 18) (N := some 4) (v := ?_) (a' := ?_) #[true, true, true, true, true, true, true, true, true, true, true, true, true, true, true, true, true, true, true] rfl rfl (any_of HT_.out (by kernel_rfl)) (fun _ _ _ h => h) (Or.inl ⟨by rfl, ?_⟩) ?_ ?_
                   rotate_left
                   ·intro w'
                    go_simp
                    with_reducible rfl
                   rotate_left
                   ·simp only [Act.put, List.setIfInBounds_toArray, List.set_cons_zero, List.set_cons_succ, i64_w, i32_w]
                    rfl
                   refine done_ (done_of HT_.out (by kernel_rfl)) ?_
                   try go_wp2
                   go_roundg kj1
                   case measure => have := HK1.out; have := HJ1.out; omega
                   case rel => exact ⟨(y305), (wrap64 (x5_1 + (wrap64 (t280 + 3)))), (by first | rfl | (simp; done) | (simp [*]; done)), H', ⟨by have := HK1.out; have := HJ1.out; omega⟩, ⟨by (with_reducible repeat (first | apply Kd.V_alloc | apply Kd.V_drewN | apply Kd.V_drew)); exact Kd.V_mono HO_0.out (fun _ hk => ⟨hk.1.1, hk.2⟩)⟩, ⟨by (with_reducible repeat (first | apply Kd.N_alloc | apply Kd.N_drewN | apply Kd.N_drew)); exact Kd.N_mono HO307.out (fun _ hk => hk.1)⟩, ⟨by repeat (first | (with_reducible first | exact HB.out | apply below_alloc | apply pw_below_drewN | apply below_drew1) | exact HB.out)⟩⟩
                  ·rw [if_neg c74] at H
                   exact absurd H (by simp)
                 ·rw [if_neg c71] at H
                  exact absurd H (by simp)
                ·rw [if_neg c70] at H
                 exact absurd H (by simp)
               ·rw [if_neg c68] at H
                exact absurd H (by simp)
              ·rw [if_neg c67] at H
               have c67b0 : (t286 == (IntKind.u64.wrap (t292))) = false := beq_eq_false_iff_ne.mpr c67
               have c67b1 : (t286 != (IntKind.u64.wrap (t292))) = true := bne_iff_ne.mpr c67
               simp only [Option.some.injEq, Prod.mk.injEq] at H
               obtain ⟨rfl, rfl⟩ := H
               obtain ⟨Ao88, co88, eo88⟩ := Kd.N_slice HO_4.out
               subst eo88
               try go_wp2_with (first | ((with_reducible refine gate_callee (f := 43) rfl ?_); refine goesL_ (some 40) rfl rfl Try.func43 (by kernel_rfl) rfl #[.int .i64 (x4_1.length : Int), .slice none 0 0] rfl (by (try simp only [List.map_toArray, List.map_cons, List.map_nil]); first | done | rfl | (simp only [List.length_drop, List.length_take]; rfl)) ?_; (refine (kotatsuref05_Bytes.calls (x4_1.length : Int) _ _ ([] : List Int) t280 _ ?side1 ?side2 A55.out).mono ?_); (case side1 => exact Kd.C_nil _ _); (case side2 => exact Nat.le_refl _); rintro e w' ⟨rfl, ⟨nd, rfl⟩⟩; refine ⟨_, rfl, ?_⟩))
               (try (rw [drewN_self wc]; generalize hq_ : World.drewN wc _ = wc; have n0_ : Aside0 (Kd.V (Kd.int .u8) 5 wc w.heap.size (fun k_ => (P0_ k_ ∨ w.heap.size ≤ k_) ∧ some k_ ≠ (.slice Ao88 x4_1.length co88 : Value).ownBlock) (.slice A0 l0.length c0) l0) := ⟨by rw [← hq_]; exact (by (with_reducible repeat (first | apply Kd.V_alloc | apply Kd.V_drewN | apply Kd.V_drew)); exact HO_0.out)⟩; have n1_ : Aside0 (Kd.N k69 69 wc w.heap.size (fun k_ => (P0_ k_ ∨ w.heap.size ≤ k_)) (.slice Ao88 x4_1.length co88) x4_1) := ⟨by rw [← hq_]; exact (by (with_reducible repeat (first | apply Kd.N_alloc | apply Kd.N_drewN | apply Kd.N_drew)); exact HO_4.out)⟩; have n2_ : Aside0 (Below w.heap.size w wc) := ⟨by rw [← hq_]; exact (by repeat (first | (with_reducible first | exact HB.out | apply below_alloc | apply pw_below_drewN | apply below_drew1) | exact HB.out))⟩; clear HO_0 HO_4 HB hq_; have HO_0 := n0_; have HO_4 := n1_; have HB := n2_; clear n0_ n1_ n2_))
               have n0_ := Aside0.mk (Kd.V_drew HO_0.out)
               have n1_ := Aside0.mk (Kd.N_drew HO_4.out)
               have n2_ := Aside0.mk (below_drew1 HB.out)
               clear HO_0
               clear HO_4
               clear HB
               have HO_0 := n0_
               have HO_4 := n1_
               have HB := n2_
               clear n0_ n1_ n2_
               have q90 : ((wrap64 ((wrap64 (x5_1 + t280)) + 3)) : Int) ≤ ((l0.length : Int) : Int) := of_decide_eq_true (by first | (with_reducible assumption) | assumption)
               obtain ⟨i090, hi090, _, hsz90, _⟩ := info_parts info5
               have hroom90 : l0.length ≤ c0 := (Kd.V_reads' HO_0.out).2.1
               have hC90 : Kd.F (Kd.int .u8) _ _ A0 l0.length l0 := (Kd.V_at (base := w.heap.size) HO_0.out).2.2
               have ql90 : ((ji58) : Int) ≤ ((wrap64 ((wrap64 (x5_1 + t280)) + 3)) : Int) := of_decide_eq_true (by first | (with_reducible assumption) | assumption)
               have q090 : (0 : Int) ≤ ((ji58) : Int) := of_decide_eq_true (by first | (with_reducible assumption) | assumption)
               try clear hcut77
               have hcut90 := cut_mid (P := Try.prog) 22 5 .i64 .i64 Try.underlying22 hi090 1 hsz90 A0 l0.length c0 (ji58) (wrap64 ((wrap64 (x5_1 + t280)) + 3)) q090 ql90 q90 hroom90
               have hr90 := Kd.F_mid (lo := ((ji58) : Int).toNat) (hi := ((wrap64 ((wrap64 (x5_1 + t280)) + 3)) : Int).toNat) (c := c0) hC90 (by omega) (by omega) hroom90
               obtain ⟨A90, hA90⟩ : ∃ A1, A1 = (if c0 = ((ji58) : Int).toNat then A0 else (A0 : Option Addr).map (·.add (((ji58) : Int).toNat * 1))) := ⟨_, rfl⟩
               obtain ⟨c90, hc90⟩ : ∃ c1, c1 = c0 - ((ji58) : Int).toNat := ⟨_, rfl⟩
               have hy90 : y281.length = ((wrap64 ((wrap64 (x5_1 + t280)) + 3)) : Int).toNat - ((ji58) : Int).toNat := (by rw [Ny281.out, List.length_drop, List.length_take] <;> omega)
               rw [show ((l0).take ((wrap64 ((wrap64 (x5_1 + t280)) + 3)) : Int).toNat).drop ((ji58) : Int).toNat = y281 from Ny281.out.symm] at hr90
               replace hr90 : Kd.F (Kd.int .u8) _ _ A90 y281.length y281 := (by rw [hA90]; exact hr90)
               rw [← hy90, ← hA90, ← hc90] at hcut90
               have HO285 := Aside0.mk (show Kd.V (Kd.int .u8) 5 _ w.heap.size _ (.slice A90 y281.length c90) y281 from Kd.V_mk (by rw [hy90, hc90]; exact Nat.sub_le_sub_right (Nat.le_trans (by omega) hroom90) _) hr90)
               have HC285 := Aside0.mk (show y281.length ≤ c90 from by rw [hy90, hc90]; exact Nat.sub_le_sub_right (Nat.le_trans (by omega) hroom90) _)
               clear hr90 hC90 hroom90 hi090 hsz90 hc90
               have KY90 := Aside0.mk hy90
               have KA90 := Aside0.mk hA90
               clear hy90 hA90
               replace q90 := eq_true q90
               have q91 : ((ji58) : Int) ≤ ((l0.length : Int) : Int) := of_decide_eq_true (by first | (with_reducible assumption) | assumption)
               obtain ⟨i091, hi091, _, hsz91, _⟩ := info_parts info5
               have hroom91 : l0.length ≤ c0 := (Kd.V_reads' HO_0.out).2.1
               have hC91 : Kd.F (Kd.int .u8) _ _ A0 l0.length l0 := (Kd.V_at (base := w.heap.size) HO_0.out).2.2
               have ql91 : (x5_1 : Int) ≤ ((ji58) : Int) := of_decide_eq_true (by first | (with_reducible assumption) | assumption)
               have q091 : (0 : Int) ≤ (x5_1 : Int) := of_decide_eq_true (by first | (with_reducible assumption) | assumption)
               try clear hcut78
               have hcut91 := cut_mid (P := Try.prog) 22 5 .i64 .i64 Try.underlying22 hi091 1 hsz91 A0 l0.length c0 x5_1 (ji58) q091 ql91 q91 hroom91
               have hr91 := Kd.F_mid (lo := (x5_1 : Int).toNat) (hi := ((ji58) : Int).toNat) (c := c0) hC91 (by omega) (by omega) hroom91
               obtain ⟨A91, hA91⟩ : ∃ A1, A1 = (if c0 = (x5_1 : Int).toNat then A0 else (A0 : Option Addr).map (·.add ((x5_1 : Int).toNat * 1))) := ⟨_, rfl⟩
               obtain ⟨c91, hc91⟩ : ∃ c1, c1 = c0 - (x5_1 : Int).toNat := ⟨_, rfl⟩
               have hy91 : y287.length = ((ji58) : Int).toNat - (x5_1 : Int).toNat := (by rw [Ny287.out, List.length_drop, List.length_take] <;> omega)
               rw [show ((l0).take ((ji58) : Int).toNat).drop (x5_1 : Int).toNat = y287 from Ny287.out.symm] at hr91
               replace hr91 : Kd.F (Kd.int .u8) _ _ A91 y287.length y287 := (by rw [hA91]; exact hr91)
               rw [← hy91, ← hA91, ← hc91] at hcut91
               have HO291 := Aside0.mk (show Kd.V (Kd.int .u8) 5 _ w.heap.size _ (.slice A91 y287.length c91) y287 from Kd.V_mk (by rw [hy91, hc91]; exact Nat.sub_le_sub_right (Nat.le_trans (by omega) hroom91) _) hr91)
               have HC291 := Aside0.mk (show y287.length ≤ c91 from by rw [hy91, hc91]; exact Nat.sub_le_sub_right (Nat.le_trans (by omega) hroom91) _)
               clear hr91 hC91 hroom91 hi091 hsz91 hc91
               have KY91 := Aside0.mk hy91
               have KA91 := Aside0.mk hA91
               clear hy91 hA91
               replace q91 := eq_true q91
               refine start_ (n := 21) (S := fun w' => True) (ds := []) #[false, false, false, false, false, false, false, false, false, false, false, false, false, false, false, false, false, false, false, false, false] (by kernel_rfl) rfl rfl trivial (fun hHeld => ?_); refine with_tabW kotatsuref06_Unwrap.tab10 kotatsuref06_Unwrap.bits10 (fun HT_ HW_ => ?_)
               generalize wc.drew = w89 at HO_0 HO_4 HB HO285 HO291 hHeld ⊢
               refine pure_ (i := 0) (N := some 48) (v := ?_) (a' := ?_) #[true, false, false, false, false, false, false, false, false, false, false, false, false, false, false, false, false, false, false, false, false] rfl rfl (any_of HT_.out (by kernel_rfl)) (fun _ _ _ h => h) (Or.inl ⟨by rfl, ?_⟩) ?_ ?_
               rotate_left
               ·intro w'
                go_simp
                with_reducible rfl
               rotate_left
               ·simp only [Act.put, List.setIfInBounds_toArray, List.set_cons_zero, List.set_cons_succ, i64_w, i32_w]
                rfl
               refine pure_ (i := 1) (N := some 49) (v := ?_) (a' := ?_) #[true, true, false, false, false, false, false, false, false, false, false, false, false, false, false, false, false, false, false, false, false] rfl rfl (any_of HT_.out (by kernel_rfl)) (fun _ _ _ h => h) (Or.inl ⟨by rfl, ?_⟩) ?_ ?_
               rotate_left
               ·intro w'
                go_simp
                with_reducible rfl
               rotate_left
               ·simp only [Act.put, List.setIfInBounds_toArray, List.set_cons_zero, List.set_cons_succ, i64_w, i32_w]
                rfl
               refine pure_ (i := 2) (N := some 50) (v := ?_) (a' := ?_) #[true, true, true, false, false, false, false, false, false, false, false, false, false, false, false, false, false, false, false, false, false] rfl rfl (any_of HT_.out (by kernel_rfl)) (fun _ _ _ h => h) (Or.inl ⟨by rfl, ?_⟩) ?_ ?_
               rotate_left
               ·intro w'
                go_simp
                with_reducible rfl
               rotate_left
               ·simp only [Act.put, List.setIfInBounds_toArray, List.set_cons_zero, List.set_cons_succ, i64_w, i32_w]
                rfl
               refine pure_ (i := 3) (N := some 51) (v := ?_) (a' := ?_) #[true, true, true, true, false, false, false, false, false, false, false, false, false, false, false, false, false, false, false, false, false] rfl rfl (any_of HT_.out (by kernel_rfl)) (fun _ _ _ h => h) (Or.inl ⟨by rfl, ?_⟩) ?_ ?_
               rotate_left
               ·intro w'
                go_simp
                with_reducible rfl
               rotate_left
               ·simp only [Act.put, List.setIfInBounds_toArray, List.set_cons_zero, List.set_cons_succ, i64_w, i32_w]
                rfl
               refine pure_ (i := 4) (N := some 52) (v := ?_) (a' := ?_) #[true, true, true, true, true, false, false, false, false, false, false, false, false, false, false, false, false, false, false, false, false] rfl rfl (any_of HT_.out (by kernel_rfl)) (fun _ _ _ h => h) (Or.inl ⟨by rfl, ?_⟩) ?_ ?_
               rotate_left
               ·intro w'
                go_simp
                with_reducible rfl
               rotate_left
               ·simp only [Act.put, List.setIfInBounds_toArray, List.set_cons_zero, List.set_cons_succ, i64_w, i32_w]
                rfl
               refine pure_ (i := 5) (N := some 53) (v := ?_) (a' := ?_) #[true, true, true, true, true, true, false, false, false, false, false, false, false, false, false, false, false, false, false, false, false] rfl rfl (any_of HT_.out (by kernel_rfl)) (fun _ _ _ h => h) (Or.inl ⟨by rfl, ?_⟩) ?_ ?_
               rotate_left
               ·intro w'
                go_simp
                with_reducible rfl
               rotate_left
               ·simp only [Act.put, List.setIfInBounds_toArray, List.set_cons_zero, List.set_cons_succ, i64_w, i32_w]
                rfl
               refine pure_ (i := 6) (N := some 54) (v := ?_) (a' := ?_) #[true, true, true, true, true, true, true, false, false, false, false, false, false, false, false, false, false, false, false, false, false] rfl rfl (any_of HT_.out (by kernel_rfl)) (fun _ _ _ h => h) (Or.inl ⟨by rfl, ?_⟩) ?_ ?_
               rotate_left
               ·intro w'
                go_simp
                with_reducible rfl
               rotate_left
               ·simp only [Act.put, List.setIfInBounds_toArray, List.set_cons_zero, List.set_cons_succ, i64_w, i32_w]
                rfl
               refine pure_ (i := 7) (N := some 55) (v := ?_) (a' := ?_) #[true, true, true, true, true, true, true, true, false, false, false, false, false, false, false, false, false, false, false, false, false] rfl rfl (any_of HT_.out (by kernel_rfl)) (fun _ _ _ h => h) (Or.inl ⟨by rfl, ?_⟩) ?_ ?_
               rotate_left
               ·intro w'
                go_simp
                with_reducible rfl
               rotate_left
               ·simp only [Act.put, List.setIfInBounds_toArray, List.set_cons_zero, List.set_cons_succ, i64_w, i32_w]
                rfl
               refine pure_ (i := 8) (N := some 56) (v := ?_) (a' := ?_) #[true, true, true, true, true, true, true, true, true, false, false, false, false, false, false, false, false, false, false, false, false] rfl rfl (any_of HT_.out (by kernel_rfl)) (fun _ _ _ h => h) (Or.inl ⟨by rfl, ?_⟩) ?_ ?_
               rotate_left
               ·intro w'
                go_simp
                with_reducible rfl
               rotate_left
               ·simp only [Act.put, List.setIfInBounds_toArray, List.set_cons_zero, List.set_cons_succ, i64_w, i32_w]
                rfl
               refine pure_ (i := 9) (N := some 57) (v := ?_) (a' := ?_) #[true, true, true, true, true, true, true, true, true, true, false, false, false, false, false, false, false, false, false, false, false] rfl rfl (any_of HT_.out (by kernel_rfl)) (fun _ _ _ h => h) (Or.inl ⟨by rfl, ?_⟩) ?_ ?_
               rotate_left
               ·intro w'
                go_simp
                with_reducible rfl
               rotate_left
               ·simp only [Act.put, List.setIfInBounds_toArray, List.set_cons_zero, List.set_cons_succ, i64_w, i32_w]
                rfl
               refine pure_ (i := 11) (N := some 59) (v := ?_) (a' := ?_) #[true, true, true, true, true, true, true, true, true, true, false, true, false, false, false, false, false, false, false, false, false] rfl rfl (any_of HT_.out (by kernel_rfl)) (fun _ _ _ h => h) (Or.inl ⟨by rfl, ?_⟩) ?_ ?_
               rotate_left
               ·intro w'
                go_simp
                with_reducible rfl
               rotate_left
               ·simp only [Act.put, List.setIfInBounds_toArray, List.set_cons_zero, List.set_cons_succ, i64_w, i32_w]
                rfl
               refine pure_ (i := 12) (N := some 60) (v := ?_) (a' := ?_) #[true, true, true, true, true, true, true, true, true, true, false, true, true, false, false, false, false, false, false, false, false] rfl rfl (any_of HT_.out (by kernel_rfl)) (fun _ _ _ h => h) (Or.inl ⟨by rfl, ?_⟩) ?_ ?_
               rotate_left
               ·intro w'
                go_simp
                with_reducible rfl
               rotate_left
               ·simp only [Act.put, List.setIfInBounds_toArray, List.set_cons_zero, List.set_cons_succ, i64_w, i32_w]
                rfl
               refine pure_ (i := 13) (N := some 61) (v := ?_) (a' := ?_) #[true, true, true, true, true, true, true, true, true, true, false, true, true, true, false, false, false, false, false, false, false] rfl rfl (any_of HT_.out (by kernel_rfl)) (fun _ _ _ h => h) (Or.inl ⟨by rfl, ?_⟩) ?_ ?_
               rotate_left
               ·intro w'
                go_simp
                with_reducible rfl
               rotate_left
               ·simp only [Act.put, List.setIfInBounds_toArray, List.set_cons_zero, List.set_cons_succ, i64_w, i32_w]
                rfl
               refine pure_ (i := 14) (N := some 62) (v := ?_) (a' := ?_) #[true, true, true, true, true, true, true, true, true, true, false, true, true, true, true, false, false, false, false, false, false] rfl rfl (any_of HT_.out (by kernel_rfl)) (fun _ _ _ h => h) (Or.inl ⟨by rfl, ?_⟩) ?_ ?_
               rotate_left
               ·intro w'
                go_simp
                with_reducible rfl
               rotate_left
               ·simp only [Act.put, List.setIfInBounds_toArray, List.set_cons_zero, List.set_cons_succ, i64_w, i32_w]
                rfl
               refine pure_ (i := 15) (N := some 63) (v := ?_) (a' := ?_) #[true, true, true, true, true, true, true, true, true, true, false, true, true, true, true, true, false, false, false, false, false] rfl rfl (any_of HT_.out (by kernel_rfl)) (fun _ _ _ h => h) (Or.inl ⟨by rfl, ?_⟩) ?_ ?_
               rotate_left
               ·intro w'
                go_simp
                with_reducible rfl
               rotate_left
               ·simp only [Act.put, List.setIfInBounds_toArray, List.set_cons_zero, List.set_cons_succ, i64_w, i32_w]
                rfl
               refine pure_ (i := 16) (N := some 64) (v := ?_) (a' := ?_) #[true, true, true, true, true, true, true, true, true, true, false, true, true, true, true, true, true, false, false, false, false] rfl rfl (any_of HT_.out (by kernel_rfl)) (fun _ _ _ h => h) (Or.inl ⟨by rfl, ?_⟩) ?_ ?_
               rotate_left
               ·intro w'
                go_simp
                with_reducible rfl
               rotate_left
               ·simp only [Act.put, List.setIfInBounds_toArray, List.set_cons_zero, List.set_cons_succ, i64_w, i32_w]
                rfl
               refine pure_ (i := 17) (N := some 65) (v := ?_) (a' := ?_) #[true, true, true, true, true, true, true, true, true, true, false, true, true, true, true, true, true, true, false, false, false] rfl rfl (any_of HT_.out (by kernel_rfl)) (fun _ _ _ h => h) (Or.inl ⟨by rfl, ?_⟩) ?_ ?_
               rotate_left
               ·intro w'
                go_simp
                with_reducible rfl
               rotate_left
               ·simp only [Act.put, List.setIfInBounds_toArray, List.set_cons_zero, List.set_cons_succ, i64_w, i32_w]
                rfl
               refine one_ (i := 10) (N := some 58) #[true, true, true, true, true, true, true, true, true, true, true, true, true, true, true, true, true, true, false, false, false] rfl rfl (one_of HT_.out (by kernel_rfl)) (by decide) (fun K hK => ?_)
               refine goes_ Try.func44 (by kernel_rfl) rfl #[.slice A90 y281.length c90] (by rfl) rfl rfl (by (try simp only [List.map_toArray, List.map_cons, List.map_nil]); first | done | rfl | (simp only [List.length_drop, List.length_take]; rfl)) ?_
               with_reducible refine (kotatsuref02_Take.calls kj1 _ _ y281 t286 _ ?side1 ?side2 A62.out).mono ?_
               (case side1 => repeat (first | exact (Kd.V_reads' HO285.out).2.2 | (with_reducible refine Kd.C_alloc ?_ _) | (with_reducible refine Kd.C_drewN ?_ _) | (with_reducible refine Kd.C_drew ?_)))
               (case side2 => exact (Kd.V_reads' HO285.out).2.1)
               rintro e w' ⟨rfl, ⟨nd, rfl⟩⟩
               refine ⟨_, rfl, ?_⟩
               refine hK.out _ _ trivial (fun hHeld => ?_)
               clear hK K
               refine norm_ (a' := ?_) ?_ ?_
               rotate_left
               ·show Act.put _ (some 58) _ = _
                simp only [Act.put, List.setIfInBounds_toArray, List.set_cons_zero, List.set_cons_succ, i64_w, i32_w]
                rfl
               refine one_ (i := 18) (N := some 66) #[true, true, true, true, true, true, true, true, true, true, true, true, true, true, true, true, true, true, true, false, false] rfl rfl (one_of HT_.out (by kernel_rfl)) (by decide) (fun K hK => ?_)
               refine goes_ Try.func37 (by kernel_rfl) rfl #[.slice A91 y287.length c91] (by rfl) rfl rfl (by (try simp only [List.map_toArray, List.map_cons, List.map_nil]); first | done | rfl | (simp only [List.length_drop, List.length_take]; rfl)) ?_
               with_reducible refine (kotatsuref02_Short.calls kj1 (fun k_ => ((P0_ k_ ∨ w.heap.size ≤ k_) ∧ some k_ ≠ (.slice Ao88 x4_1.length co88 : Value).ownBlock)) _ _ y287 t292 _ ?side1 A66.out).mono ?_
               (case side1 => exact HO291.out)
               rintro e w92 ⟨rfl, hb⟩
               refine ⟨_, rfl, ?_⟩
               have n0_ := Aside0.mk (Kd.V_below (by (with_reducible repeat (first | apply Kd.V_alloc | apply Kd.V_drewN | apply Kd.V_drew)); exact HO_0.out) hb)
               have n1_ := Aside0.mk (Kd.N_below (by (with_reducible repeat (first | apply Kd.N_alloc | apply Kd.N_drewN | apply Kd.N_drew)); exact HO_4.out) hb)
               have n2_ := Aside0.mk (Kd.V_below (by (with_reducible repeat (first | apply Kd.V_alloc | apply Kd.V_drewN | apply Kd.V_drew)); exact HO285.out) hb)
               have n3_ := Aside0.mk (Kd.V_below (by (with_reducible repeat (first | apply Kd.V_alloc | apply Kd.V_drewN | apply Kd.V_drew)); exact HO291.out) hb)
               have n4_ := Aside0.mk (below_step (by repeat (first | (with_reducible first | exact HB.out | apply below_alloc | apply pw_below_drewN | apply below_drew1) | exact HB.out)) hb)
               clear HO_0
               clear HO_4
               clear HO285
               clear HO291
               clear HB
               have HO_0 := n0_
               have HO_4 := n1_
               have HO285 := n2_
               have HO291 := n3_
               have HB := n4_
               clear n0_ n1_ n2_ n3_ n4_
               (try clear hb)
               (try clear hb2)
               (try clear hk)
               (try clear hi)
               refine hK.out _ _ trivial (fun hHeld => ?_)
               clear hK K
               refine norm_ (a' := ?_) ?_ ?_
               rotate_left
               ·show Act.put _ (some 66) _ = _
                simp only [Act.put, List.setIfInBounds_toArray, List.set_cons_zero, List.set_cons_succ, i64_w, i32_w]
                rfl
               refine pure_ (i := 19) (N := some 67) (v := ?_) (a' := ?_) #[true, true, true, true, true, true, true, true, true, true, true, true, true, true, true, true, true, true, true, true, false] rfl rfl (any_of HT_.out (by kernel_rfl)) (fun _ _ _ h => h) (Or.inl ⟨by rfl, ?_⟩) ?_ ?_
               rotate_left
               ·intro w'
                go_simp
                with_reducible rfl
               rotate_left
               ·simp only [Act.put, List.setIfInBounds_toArray, List.set_cons_zero, List.set_cons_succ, i64_w, i32_w]
                rfl
               refine pure_ (i := 20) (N := some 68) (v := ?_) (a' := ?_) #[true, true, true, true, true, true, true, true, true, true, true, true, true, true, true, true, true, true, true, true, true] rfl rfl (any_of HT_.out (by kernel_rfl)) (fun _ _ _ h => h) (Or.inl ⟨by rfl, ?_⟩) ?_ ?_
               rotate_left
               ·intro w'
                go_simp
                with_reducible rfl
               rotate_left
               ·simp only [Act.put, List.setIfInBounds_toArray, List.set_cons_zero, List.set_cons_succ, i64_w, i32_w]
                rfl
               refine done_ (done_of HT_.out (by kernel_rfl)) ?_
               try go_wp2
               go_ret2
               exact ⟨_, by first | rfl | (simp [errW_none, errW_some] <;> rfl) | (simp only [← hji58]; first | rfl | (simp [errW_none, errW_some] <;> rfl)) | (simp [*, errW_none, errW_some] <;> rfl), by first | exact Kd.S_nil _ _ _ _ _ | exact Kd.N_nil _ _ _ _ _ | exact Kd.V_nil _ _ _ _ _ | exact Kd.Q_nil _ _ _ _ _ | exact Kd.R_nil _ _ _ _ _, by repeat (first | (with_reducible first | exact HB.out | apply below_alloc | apply pw_below_drewN | apply below_drew1) | exact HB.out)⟩
             ·rw [if_neg c65] at H
              exact absurd H (by simp)
            ·rw [if_neg c64] at H
             exact absurd H (by simp)
           ·rw [if_neg c63] at H
            exact absurd H (by simp)
          ·rw [if_neg c61] at H
           exact absurd H (by simp)
         ·rw [if_neg c60] at H
          exact absurd H (by simp)
        ·rw [if_neg c59] at H
         exact absurd H (by simp)
     ·replace c12 := Bool.eq_false_iff.mpr c12
      subst c12
      have H1 : (some (x4_1, 0)) = some (r1, r2) := by rw [if_neg (show ¬ (false = true) by decide)] at H; exact H
      clear H
      have H := H1
      clear H1
      simp only [Option.some.injEq, Prod.mk.injEq] at H
      obtain ⟨rfl, rfl⟩ := H
      go_wp2
      go_ret2
      exact ⟨_, by first | rfl | (simp [errW_none, errW_some] <;> rfl) | (simp [*, errW_none, errW_some] <;> rfl), by (with_reducible repeat (first | apply Kd.N_alloc | apply Kd.N_drewN | apply Kd.N_drew)); exact HO_4.out, by repeat (first | (with_reducible first | exact HB.out | apply below_alloc | apply pw_below_drewN | apply below_drew1) | exact HB.out)⟩

end Go.Proofs.Ythnfmoaiejaheaa.PDiskWraps
