/-
 THE MODULATION's SLOPE; the two registers' number. By the prover of this repo.
-/
import Derived.Test.YtaiaapjlpbhlbaaDoorZWavF
namespace Go.Proofs.YtaiaapjlpbhlbaaDoor.Wave
open Go.RowKit Go.Proofs.YtaiaapjlpbhlbaaDoorW.PrintWords Go.Proofs.YtaiaapjlpbhlbaaDoorW.PrintLast Go.Proofs.YtaiaapjlpbhlbaaDoorW.PrintMore
set_option linter.unusedVariables false
set_option linter.unusedSimpArgs false
set_option maxRecDepth 20000
def clkM (v : V) (m : Int) : V := { v with mgain := (clkS v.mreg v.mgain v.mn m).1, mn := (clkS v.mreg v.mgain v.mn m).2 }
set_option maxHeartbeats 4000000 in
theorem clkM_calls (base : Nat) (g : Nat) (v : V) (W : World) (h : Is base W g v) (hr : U8 v.mreg) (hg : 0 ≤ v.mgain ∧ v.mgain < 64) (hn : 0 ≤ v.mn ∧ v.mn < 131072) (m : Int) (hm : U8 m) :
  Calls Tryd.prog 78 #[.pointer (some ⟨g, 142, none⟩), .int .u8 m] W fun e W' => e = .returned (.tuple #[]) ∧ Is base W' g (clkM v m) ∧ Turn base W W' (One g) := by
 have H := Aside0.mk h
 have c1 : W.cell? ⟨g, 142, none⟩ = some (.int .u8 v.mreg) := h.tail_ 3
 have c2 : W.cell? ⟨g, 143, none⟩ = some (.int .u8 v.mgain) := h.tail_ 4
 have c3 : W.cell? ⟨g, 144, none⟩ = some (.int .i64 v.mn) := h.tail_ 5
 have f2 := h.frozen 143
 have f3 := h.frozen 144
 have a128 := and128 _ hr.1 hr.2
 have a63 := and63 _ hr.1 hr.2
 have a64 := and64 _ hr.1 hr.2
 obtain ⟨n0, n1⟩ := hn
 obtain ⟨g0, g1⟩ := hg
 obtain ⟨m0, m1⟩ := hm
 have hr6 : 0 ≤ v.mreg % 64 ∧ v.mreg % 64 < 64 := by omega
 unfold clkM clkS
 by_cases h1 : 128 ≤ v.mreg
 ·rw [if_pos h1] at a128 ⊢
  clear h hr h1
  go_enter Tryd.func78, Tryd.ntmps78
  go_wp2
  first | go_end0 | ((try simp only [Exit.inBlock, Exit.then]); refine bodyPost_ret (results_none rfl _ _ _) rfl ?_)
  exact ⟨rfl, H.out, Turn.refl base W (One g)⟩
 ·rw [if_neg h1] at a128 ⊢
  have b0 : (0 : Int) ≤ 8 * (v.mreg % 64 + 1) := by omega
  have b1 : 0 ≤ 8 * (v.mreg % 64 + 1) * (m + 1) := Int.mul_nonneg b0 (by omega)
  have b2 : 8 * (v.mreg % 64 + 1) * (m + 1) ≤ 512 * 256 := Int.mul_le_mul (by omega) (by omega) (by omega) (by decide)
  have w1 : wrap64 (8 * wrap64 (v.mreg % 64 + 1)) = 8 * (v.mreg % 64 + 1) := by rw [wr64 (n := v.mreg % 64 + 1) (by omega) (by omega)]; exact wr64 (by omega) (by omega)
  clear h hr h1
  generalize v.mreg % 64 = x at *
  generalize hP : 8 * (x + 1) * (m + 1) = P at *
  have K1 := Aside0.mk (H.out.set_tail 5 (.int .i64 (v.mn + 1)) (v' := { v with mn := v.mn + 1 }) rfl rfl rfl rfl)
  have K2 := Aside0.mk (((K1.out).drewN 0).set_tail 5 (.int .i64 0) (v' := { v with mn := 0 }) rfl rfl rfl rfl)
  have T1 := Aside0.mk ((Turn.refl base W (One g)).set_ (i := 144) rfl H.out.base (.int .i64 (v.mn + 1)))
  by_cases h2 : v.mn + 1 < P
  ·rw [if_pos h2]
   have d2 : decide (v.mn + 1 < P) = true := decide_eq_true h2
   clear h2
   go_enter Tryd.func78, Tryd.ntmps78
   go_wp2
   go_quiet (fail)
   go_wp2
   first | go_end0 | ((try simp only [Exit.inBlock, Exit.then]); refine bodyPost_ret (results_none rfl _ _ _) rfl ?_)
   exact ⟨rfl, K1.out.drewN _, T1.out.drewN _⟩
  ·rw [if_neg h2]
   have d2 : decide (v.mn + 1 < P) = false := decide_eq_false h2
   clear h2
   by_cases h3 : v.mreg % 128 < 64
   ·rw [if_pos h3]
    rw [if_neg (by omega)] at a64
    clear h3
    by_cases h5 : 1 < v.mgain
    ·have d5 : decide (1 < v.mgain) = true := decide_eq_true h5
     have w5 : IntKind.u8.wrap (v.mgain - 1) = v.mgain - 1 := by rw [IntKind.wrap_u8]; omega
     have w6 : (v.mgain - 1) % 256 = v.mgain - 1 := by omega
     rw [show min v.mgain 1 = 1 by omega]
     go_enter Tryd.func78, Tryd.ntmps78
     go_wp2
     go_quiet (fail)
     go_wp2
     refine start_ (n := 13) (S := fun w' => w'.cell? ⟨g, 143, none⟩ = some (.int .u8 v.mgain)) (ds := [12]) #[false, false, false, false, false, false, false, false, false, false, false, false, false] (by kernel_rfl) rfl rfl (by exact ((K1.out.drewN _).set_tail 5 (.int .i64 0) (v' := { v with mn := 0 }) rfl rfl rfl rfl).tail_ 4) (fun hHeld => ?_)
     refine pure_ (i := 0) (N := some 44) (v := ?_) (a' := ?_) #[true, false, false, false, false, false, false, false, false, false, false, false, false] rfl rfl (by kernel_rfl) (fun _ _ _ h => h) (Or.inl ⟨by rfl, ?_⟩) ?_ ?_
     rotate_left
     ·intro w'
      go_simp
      with_reducible rfl
     rotate_left
     ·simp only [Act.put, List.setIfInBounds_toArray, List.set_cons_zero, List.set_cons_succ, i64_w, i32_w]
      rfl
     refine pure_ (i := 1) (N := some 45) (v := ?_) (a' := ?_) #[true, true, false, false, false, false, false, false, false, false, false, false, false] rfl rfl (by kernel_rfl) (fun _ _ _ h => h) (Or.inl ⟨by rfl, ?_⟩) ?_ ?_
     rotate_left
     ·intro w'
      go_simp
      with_reducible rfl
     rotate_left
     ·simp only [Act.put, List.setIfInBounds_toArray, List.set_cons_zero, List.set_cons_succ, i64_w, i32_w]
      rfl
     refine pure_ (i := 2) (N := some 46) (v := ?_) (a' := ?_) #[true, true, true, false, false, false, false, false, false, false, false, false, false] rfl rfl (by kernel_rfl) (fun _ _ _ h => h) (Or.inl ⟨by rfl, ?_⟩) ?_ ?_
     rotate_left
     ·intro w'
      go_simp
      with_reducible rfl
     rotate_left
     ·simp only [Act.put, List.setIfInBounds_toArray, List.set_cons_zero, List.set_cons_succ, i64_w, i32_w]
      rfl
     refine pure_ (i := 4) (N := some 48) (v := ?_) (a' := ?_) #[true, true, true, false, true, false, false, false, false, false, false, false, false] rfl rfl (by kernel_rfl) (fun _ _ _ h => h) (Or.inl ⟨by rfl, ?_⟩) ?_ ?_
     rotate_left
     ·intro w'
      go_simp
      with_reducible rfl
     rotate_left
     ·simp only [Act.put, List.setIfInBounds_toArray, List.set_cons_zero, List.set_cons_succ, i64_w, i32_w]
      rfl
     refine pure_ (i := 5) (N := some 49) (v := ?_) (a' := ?_) #[true, true, true, false, true, true, false, false, false, false, false, false, false] rfl rfl (by kernel_rfl) (fun _ _ _ h => h) (Or.inl ⟨by rfl, ?_⟩) ?_ ?_
     rotate_left
     ·intro w'
      go_simp
      with_reducible rfl
     rotate_left
     ·simp only [Act.put, List.setIfInBounds_toArray, List.set_cons_zero, List.set_cons_succ, i64_w, i32_w]
      rfl
     refine pure_ (i := 6) (N := some 50) (v := ?_) (a' := ?_) #[true, true, true, false, true, true, true, false, false, false, false, false, false] rfl rfl (by kernel_rfl) (fun _ _ _ h => h) (Or.inl ⟨by rfl, ?_⟩) ?_ ?_
     rotate_left
     ·intro w'
      go_simp
      with_reducible rfl
     rotate_left
     ·simp only [Act.put, List.setIfInBounds_toArray, List.set_cons_zero, List.set_cons_succ, i64_w, i32_w]
      rfl
     refine take_ (i := 3) (N := some 47) (v := ?_) (a' := ?_) #[true, true, true, true, true, true, true, false, false, false, false, false, false] rfl rfl (by kernel_rfl) (fun _ _ _ h => h) (Or.inl ⟨by rfl, ?_⟩) hHeld ?_ ?_
     rotate_left
     ·intro w' s0
      go_simp
      with_reducible rfl
     rotate_left
     ·simp only [Act.put, List.setIfInBounds_toArray, List.set_cons_zero, List.set_cons_succ, i64_w, i32_w]
      rfl
     refine take_ (i := 7) (N := some 51) (v := ?_) (a' := ?_) #[true, true, true, true, true, true, true, true, false, false, false, false, false] rfl rfl (by kernel_rfl) (fun _ _ _ h => h) (Or.inl ⟨by rfl, ?_⟩) hHeld ?_ ?_
     rotate_left
     ·intro w' s0
      go_simp
      with_reducible rfl
     rotate_left
     ·simp only [Act.put, List.setIfInBounds_toArray, List.set_cons_zero, List.set_cons_succ, i64_w, i32_w]
      rfl
     refine pure_ (i := 8) (N := some 52) (v := ?_) (a' := ?_) #[true, true, true, true, true, true, true, true, true, false, false, false, false] rfl rfl (by kernel_rfl) (fun _ _ _ h => h) (Or.inl ⟨by rfl, ?_⟩) ?_ ?_
     rotate_left
     ·intro w'
      go_simp
      with_reducible rfl
     rotate_left
     ·simp only [Act.put, List.setIfInBounds_toArray, List.set_cons_zero, List.set_cons_succ, i64_w, i32_w]
      rfl
     refine pure_ (i := 9) (N := some 53) (v := ?_) (a' := ?_) #[true, true, true, true, true, true, true, true, true, true, false, false, false] rfl rfl (by kernel_rfl) (fun _ _ _ h => h) (Or.inl ⟨by rfl, ?_⟩) ?_ ?_
     rotate_left
     ·intro w'
      go_simp
      with_reducible rfl
     rotate_left
     ·simp only [Act.put, List.setIfInBounds_toArray, List.set_cons_zero, List.set_cons_succ, i64_w, i32_w]
      rfl
     refine pure_ (i := 10) (N := some 54) (v := ?_) (a' := ?_) #[true, true, true, true, true, true, true, true, true, true, true, false, false] rfl rfl (by kernel_rfl) (fun _ _ _ h => h) (Or.inl ⟨by rfl, ?_⟩) ?_ ?_
     rotate_left
     ·intro w'
      go_simp
      with_reducible rfl
     rotate_left
     ·simp only [Act.put, List.setIfInBounds_toArray, List.set_cons_zero, List.set_cons_succ, i64_w, i32_w]
      rfl
     refine pure_ (i := 11) (N := some 55) (v := ?_) (a' := ?_) #[true, true, true, true, true, true, true, true, true, true, true, true, false] rfl rfl (by kernel_rfl) (fun _ _ _ h => h) (Or.inl ⟨by rfl, ?_⟩) ?_ ?_
     rotate_left
     ·intro w'
      go_simp
      with_reducible rfl
     rotate_left
     ·simp only [Act.put, List.setIfInBounds_toArray, List.set_cons_zero, List.set_cons_succ, i64_w, i32_w]
      rfl
     refine last_ (i := 12) (N := none) #[true, true, true, true, true, true, true, true, true, true, true, true, true] rfl rfl (by kernel_rfl) (by decide) (fun K hK => ?_)
     refine skip_ (w1 := ?_) (by rfl) rfl ?_ ?_
     rotate_left
     ·go_simp
      rfl
     refine hK.out _ _ ?_
     clear hK K
     refine done_ (by kernel_rfl) ?_
     go_wp2
     go_end0
     refine ⟨rfl, ?_, (((T1.out.drewN _).set_ rfl H.out.base _).drew).set_ rfl H.out.base _⟩
     exact ((((K1.out.drewN _).set_tail 5 (.int .i64 0) (v' := { v with mn := 0 }) rfl rfl rfl rfl).drew).set_tail 4 _ rfl rfl rfl rfl)
    ·have d5 : decide (1 < v.mgain) = false := decide_eq_false h5
     rw [show v.mgain - min v.mgain 1 = 0 by omega]
     go_enter Tryd.func78, Tryd.ntmps78
     go_wp2
     go_quiet (fail)
     go_wp2
     refine start_ (n := 13) (S := fun w' => w'.cell? ⟨g, 143, none⟩ = some (.int .u8 v.mgain)) (ds := [12]) #[false, false, false, false, false, false, false, false, false, false, false, false, false] (by kernel_rfl) rfl rfl (by exact ((K1.out.drewN _).set_tail 5 (.int .i64 0) (v' := { v with mn := 0 }) rfl rfl rfl rfl).tail_ 4) (fun hHeld => ?_)
     refine pure_ (i := 0) (N := some 44) (v := ?_) (a' := ?_) #[true, false, false, false, false, false, false, false, false, false, false, false, false] rfl rfl (by kernel_rfl) (fun _ _ _ h => h) (Or.inl ⟨by rfl, ?_⟩) ?_ ?_
     rotate_left
     ·intro w'
      go_simp
      with_reducible rfl
     rotate_left
     ·simp only [Act.put, List.setIfInBounds_toArray, List.set_cons_zero, List.set_cons_succ, i64_w, i32_w]
      rfl
     refine pure_ (i := 1) (N := some 45) (v := ?_) (a' := ?_) #[true, true, false, false, false, false, false, false, false, false, false, false, false] rfl rfl (by kernel_rfl) (fun _ _ _ h => h) (Or.inl ⟨by rfl, ?_⟩) ?_ ?_
     rotate_left
     ·intro w'
      go_simp
      with_reducible rfl
     rotate_left
     ·simp only [Act.put, List.setIfInBounds_toArray, List.set_cons_zero, List.set_cons_succ, i64_w, i32_w]
      rfl
     refine pure_ (i := 2) (N := some 46) (v := ?_) (a' := ?_) #[true, true, true, false, false, false, false, false, false, false, false, false, false] rfl rfl (by kernel_rfl) (fun _ _ _ h => h) (Or.inl ⟨by rfl, ?_⟩) ?_ ?_
     rotate_left
     ·intro w'
      go_simp
      with_reducible rfl
     rotate_left
     ·simp only [Act.put, List.setIfInBounds_toArray, List.set_cons_zero, List.set_cons_succ, i64_w, i32_w]
      rfl
     refine pure_ (i := 4) (N := some 48) (v := ?_) (a' := ?_) #[true, true, true, false, true, false, false, false, false, false, false, false, false] rfl rfl (by kernel_rfl) (fun _ _ _ h => h) (Or.inl ⟨by rfl, ?_⟩) ?_ ?_
     rotate_left
     ·intro w'
      go_simp
      with_reducible rfl
     rotate_left
     ·simp only [Act.put, List.setIfInBounds_toArray, List.set_cons_zero, List.set_cons_succ, i64_w, i32_w]
      rfl
     refine pure_ (i := 5) (N := some 49) (v := ?_) (a' := ?_) #[true, true, true, false, true, true, false, false, false, false, false, false, false] rfl rfl (by kernel_rfl) (fun _ _ _ h => h) (Or.inl ⟨by rfl, ?_⟩) ?_ ?_
     rotate_left
     ·intro w'
      go_simp
      with_reducible rfl
     rotate_left
     ·simp only [Act.put, List.setIfInBounds_toArray, List.set_cons_zero, List.set_cons_succ, i64_w, i32_w]
      rfl
     refine pure_ (i := 6) (N := some 50) (v := ?_) (a' := ?_) #[true, true, true, false, true, true, true, false, false, false, false, false, false] rfl rfl (by kernel_rfl) (fun _ _ _ h => h) (Or.inl ⟨by rfl, ?_⟩) ?_ ?_
     rotate_left
     ·intro w'
      go_simp
      with_reducible rfl
     rotate_left
     ·simp only [Act.put, List.setIfInBounds_toArray, List.set_cons_zero, List.set_cons_succ, i64_w, i32_w]
      rfl
     refine take_ (i := 3) (N := some 47) (v := ?_) (a' := ?_) #[true, true, true, true, true, true, true, false, false, false, false, false, false] rfl rfl (by kernel_rfl) (fun _ _ _ h => h) (Or.inl ⟨by rfl, ?_⟩) hHeld ?_ ?_
     rotate_left
     ·intro w' s0
      go_simp
      with_reducible rfl
     rotate_left
     ·simp only [Act.put, List.setIfInBounds_toArray, List.set_cons_zero, List.set_cons_succ, i64_w, i32_w]
      rfl
     refine take_ (i := 7) (N := some 51) (v := ?_) (a' := ?_) #[true, true, true, true, true, true, true, true, false, false, false, false, false] rfl rfl (by kernel_rfl) (fun _ _ _ h => h) (Or.inl ⟨by rfl, ?_⟩) hHeld ?_ ?_
     rotate_left
     ·intro w' s0
      go_simp
      with_reducible rfl
     rotate_left
     ·simp only [Act.put, List.setIfInBounds_toArray, List.set_cons_zero, List.set_cons_succ, i64_w, i32_w]
      rfl
     refine pure_ (i := 8) (N := some 52) (v := ?_) (a' := ?_) #[true, true, true, true, true, true, true, true, true, false, false, false, false] rfl rfl (by kernel_rfl) (fun _ _ _ h => h) (Or.inl ⟨by rfl, ?_⟩) ?_ ?_
     rotate_left
     ·intro w'
      go_simp
      with_reducible rfl
     rotate_left
     ·simp only [Act.put, List.setIfInBounds_toArray, List.set_cons_zero, List.set_cons_succ, i64_w, i32_w]
      rfl
     refine pure_ (i := 9) (N := some 53) (v := ?_) (a' := ?_) #[true, true, true, true, true, true, true, true, true, true, false, false, false] rfl rfl (by kernel_rfl) (fun _ _ _ h => h) (Or.inl ⟨by rfl, ?_⟩) ?_ ?_
     rotate_left
     ·intro w'
      go_simp
      with_reducible rfl
     rotate_left
     ·simp only [Act.put, List.setIfInBounds_toArray, List.set_cons_zero, List.set_cons_succ, i64_w, i32_w]
      rfl
     refine pure_ (i := 10) (N := some 54) (v := ?_) (a' := ?_) #[true, true, true, true, true, true, true, true, true, true, true, false, false] rfl rfl (by kernel_rfl) (fun _ _ _ h => h) (Or.inl ⟨by rfl, ?_⟩) ?_ ?_
     rotate_left
     ·intro w'
      go_simp
      with_reducible rfl
     rotate_left
     ·simp only [Act.put, List.setIfInBounds_toArray, List.set_cons_zero, List.set_cons_succ, i64_w, i32_w]
      rfl
     refine pure_ (i := 11) (N := some 55) (v := ?_) (a' := ?_) #[true, true, true, true, true, true, true, true, true, true, true, true, false] rfl rfl (by kernel_rfl) (fun _ _ _ h => h) (Or.inl ⟨by rfl, ?_⟩) ?_ ?_
     rotate_left
     ·intro w'
      go_simp
      with_reducible rfl
     rotate_left
     ·simp only [Act.put, List.setIfInBounds_toArray, List.set_cons_zero, List.set_cons_succ, i64_w, i32_w]
      rfl
     refine last_ (i := 12) (N := none) #[true, true, true, true, true, true, true, true, true, true, true, true, true] rfl rfl (by kernel_rfl) (by decide) (fun K hK => ?_)
     refine skip_ (w1 := ?_) (by rfl) rfl ?_ ?_
     rotate_left
     ·go_simp
      rfl
     refine hK.out _ _ ?_
     clear hK K
     refine done_ (by kernel_rfl) ?_
     go_wp2
     go_end0
     refine ⟨rfl, ?_, (((T1.out.drewN _).set_ rfl H.out.base _).drew).set_ rfl H.out.base _⟩
     exact ((((K1.out.drewN _).set_tail 5 (.int .i64 0) (v' := { v with mn := 0 }) rfl rfl rfl rfl).drew).set_tail 4 _ rfl rfl rfl rfl)
   ·rw [if_neg h3]
    rw [if_pos (by omega)] at a64
    clear h3
    by_cases h4 : v.mgain < 32
    ·rw [if_pos h4]
     have d4 : decide (v.mgain < 32) = true := decide_eq_true h4
     clear h4
     go_enter Tryd.func78, Tryd.ntmps78
     go_wp2
     go_quiet (fail)
     go_wp2
     go_end0
     exact ⟨rfl, ((K1.out.drewN _).set_tail 5 (.int .i64 0) (v' := { v with mn := 0 }) rfl rfl rfl rfl).set_tail 4 _ rfl rfl rfl rfl, ((T1.out.drewN _).set_ rfl H.out.base _).set_ rfl H.out.base _⟩
    ·rw [if_neg h4]
     have d4 : decide (v.mgain < 32) = false := decide_eq_false h4
     clear h4
     go_enter Tryd.func78, Tryd.ntmps78
     go_wp2
     go_quiet (fail)
     go_wp2
     go_end0
     exact ⟨rfl, (K1.out.drewN _).set_tail 5 (.int .i64 0) (v' := { v with mn := 0 }) rfl rfl rfl rfl, (T1.out.drewN _).set_ rfl H.out.base _⟩
theorem or12_all : ((List.range 16).all fun a => (List.range 256).all fun b => decide (Go.bits .or .i64 ((a : Int) * 256) (b : Int) = (a : Int) * 256 + b)) = true := by kernel_rfl
theorem or12 (a b : Int) (a0 : 0 ≤ a) (a1 : a < 16) (b0 : 0 ≤ b) (b1 : b < 256) : Go.bits .or .i64 (a * 256) b = a * 256 + b := by
 obtain ⟨m, rfl⟩ := Int.eq_ofNat_of_zero_le a0
 obtain ⟨n, rfl⟩ := Int.eq_ofNat_of_zero_le b0
 exact of_decide_eq_true (List.all_eq_true.1 (List.all_eq_true.1 or12_all m (List.mem_range.2 (by omega))) n (List.mem_range.2 (by omega)))
def tw (v : V) (i j : Int) : Int := rd v.reg i % 16 * 256 + rd v.reg j
theorem twelve_calls (base : Nat) (g : Nat) (v : V) (W : World) (h : Is base W g v) (i j : Nat) (hij : i = 3 ∧ j = 2 ∨ i = 7 ∧ j = 6) (hi : U8 (rd v.reg (i : Int))) (hj : U8 (rd v.reg (j : Int))) :
  Calls Tryd.prog 82 #[.pointer (some ⟨g, 0, none⟩), .int .i64 (i : Int), .int .i64 (j : Int)] W fun e W' => e = .returned (.int .i64 (tw v i j)) ∧ ∃ n, W' = W.drewN n := by
 have ci := h.reg_ i (by omega)
 have cj := h.reg_ j (by omega)
 have a15 := and15 _ hi.1 hi.2
 have o12 := or12 (rd v.reg (i : Int) % 16) (rd v.reg (j : Int)) (by omega) (by omega) hj.1 hj.2
 unfold tw
 have h1 : 0 ≤ rd v.reg (i : Int) % 16 ∧ rd v.reg (i : Int) % 16 < 16 := by omega
 obtain ⟨h10, h11⟩ := h1
 obtain ⟨h20, h21⟩ := hj
 generalize rd v.reg (i : Int) = x at *
 generalize rd v.reg (j : Int) = y at *
 rcases hij with ⟨rfl, rfl⟩ | ⟨rfl, rfl⟩
 all_goals
  simp only [Nat.reduceAdd] at ci cj
  clear h hi
  go_enter Tryd.func82, Tryd.ntmps82
  go_wp2
  go_quiet (fail)
  go_wp2
  go_ret
  exact ⟨by first | rfl | (simp only [o12]; rfl), _, rfl⟩
end Go.Proofs.YtaiaapjlpbhlbaaDoor.Wave
