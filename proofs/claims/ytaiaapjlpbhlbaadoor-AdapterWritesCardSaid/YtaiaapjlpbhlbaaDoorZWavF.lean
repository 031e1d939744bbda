/-
 THE PARTS OF A CYCLE: phase.add, twelve, slope.clock. By the prover of this repo.
-/
import Derived.Test.YtaiaapjlpbhlbaaDoorZWavE
namespace Go.Proofs.YtaiaapjlpbhlbaaDoor.Wave
open Go.RowKit Go.Proofs.YtaiaapjlpbhlbaaDoorW.PrintWords Go.Proofs.YtaiaapjlpbhlbaaDoorW.PrintLast Go.Proofs.YtaiaapjlpbhlbaaDoorW.PrintMore
set_option linter.unusedVariables false
set_option linter.unusedSimpArgs false
set_option maxRecDepth 20000
theorem wr64 {n : Int} (h0 : -9223372036854775808 ≤ n) (h1 : n ≤ 9223372036854775807) : wrap64 n = n := by unfold wrap64; omega
/-- the table's own phase -/
def addW (v : V) (n : Int) : V := if v.wrest + n < 65536 then { v with wrest := v.wrest + n } else { v with wrest := v.wrest + n - 65536, wat := (v.wat + 1) % 64 }
def addB (v : V) (n : Int) : V := if v.brest + n < 65536 then { v with brest := v.brest + n } else { v with brest := v.brest + n - 65536, bat := (v.bat + 1) % 64 }
theorem addW_calls (base : Nat) (g : Nat) (v : V) (W : World) (h : Is base W g v) (r0 : 0 ≤ v.wrest) (r1 : v.wrest < 65536) (p0 : 0 ≤ v.wat) (p1 : v.wat < 64) (n : Int) (n0 : 0 ≤ n) (n1 : n < 65536) :
  Calls Tryd.prog 80 #[.pointer (some ⟨g, 146, none⟩), .int .i64 n] W fun e W' => e = .returned (.bool (decide (¬ v.wrest + n < 65536))) ∧ Is base W' g (addW v n) ∧ Turn base W W' (One g) := by
 have H := Aside0.mk h
 have cr : W.cell? ⟨g, 146, none⟩ = some (.int .i64 v.wrest) := h.tail_ 7
 have ca : W.cell? ⟨g, 147, none⟩ = some (.int .i64 v.wat) := h.tail_ 8
 have fr := h.frozen 146
 have fa := h.frozen 147
 have m1 : (v.wat + 1).tmod 64 = (v.wat + 1) % 64 := Int.tmod_eq_emod_of_nonneg (by omega)
 unfold addW
 by_cases hc : v.wrest + n < 65536
 ·have t1 : decide (v.wrest + n < 65536) = true := decide_eq_true hc
  rw [if_pos hc, show decide (¬ v.wrest + n < 65536) = false from decide_eq_false (fun k => k hc)]
  clear h
  go_enter Tryd.func80, Tryd.ntmps80
  go_wp2
  go_ret
  exact ⟨rfl, H.out.set_tail 7 _ rfl rfl rfl rfl, (Turn.refl base W (One g)).set_ rfl H.out.base _⟩
 ·have t1 : decide (v.wrest + n < 65536) = false := decide_eq_false hc
  rw [if_neg hc, show decide (¬ v.wrest + n < 65536) = true from decide_eq_true hc]
  clear h
  go_enter Tryd.func80, Tryd.ntmps80
  go_wp2
  go_ret
  exact ⟨rfl, ((H.out.set_tail 7 (.int .i64 (v.wrest + n)) (v' := { v with wrest := v.wrest + n }) rfl rfl rfl rfl).set_tail 7 (.int .i64 (v.wrest + n - 65536)) (v' := { v with wrest := v.wrest + n - 65536 }) rfl rfl rfl rfl).set_tail 8 _ rfl rfl rfl rfl, (((Turn.refl base W (One g)).set_ rfl H.out.base _).set_ rfl H.out.base _).set_ rfl H.out.base _⟩
theorem addB_calls (base : Nat) (g : Nat) (v : V) (W : World) (h : Is base W g v) (r0 : 0 ≤ v.brest) (r1 : v.brest < 65536) (p0 : 0 ≤ v.bat) (p1 : v.bat < 64) (n : Int) (n0 : 0 ≤ n) (n1 : n < 65536) :
  Calls Tryd.prog 80 #[.pointer (some ⟨g, 148, none⟩), .int .i64 n] W fun e W' => e = .returned (.bool (decide (¬ v.brest + n < 65536))) ∧ Is base W' g (addB v n) ∧ Turn base W W' (One g) := by
 have H := Aside0.mk h
 have cr : W.cell? ⟨g, 148, none⟩ = some (.int .i64 v.brest) := h.tail_ 9
 have ca : W.cell? ⟨g, 149, none⟩ = some (.int .i64 v.bat) := h.tail_ 10
 have fr := h.frozen 148
 have fa := h.frozen 149
 have m1 : (v.bat + 1).tmod 64 = (v.bat + 1) % 64 := Int.tmod_eq_emod_of_nonneg (by omega)
 unfold addB
 by_cases hc : v.brest + n < 65536
 ·have t1 : decide (v.brest + n < 65536) = true := decide_eq_true hc
  rw [if_pos hc, show decide (¬ v.brest + n < 65536) = false from decide_eq_false (fun k => k hc)]
  clear h
  go_enter Tryd.func80, Tryd.ntmps80
  go_wp2
  go_ret
  exact ⟨rfl, H.out.set_tail 9 _ rfl rfl rfl rfl, (Turn.refl base W (One g)).set_ rfl H.out.base _⟩
 ·have t1 : decide (v.brest + n < 65536) = false := decide_eq_false hc
  rw [if_neg hc, show decide (¬ v.brest + n < 65536) = true from decide_eq_true hc]
  clear h
  go_enter Tryd.func80, Tryd.ntmps80
  go_wp2
  go_ret
  exact ⟨rfl, ((H.out.set_tail 9 (.int .i64 (v.brest + n)) (v' := { v with brest := v.brest + n }) rfl rfl rfl rfl).set_tail 9 (.int .i64 (v.brest + n - 65536)) (v' := { v with brest := v.brest + n - 65536 }) rfl rfl rfl rfl).set_tail 10 _ rfl rfl rfl rfl, (((Turn.refl base W (One g)).set_ rfl H.out.base _).set_ rfl H.out.base _).set_ rfl H.out.base _⟩
/-- a slope's cycle: of register, gain and count -/
def clkS (r a n m : Int) : Int × Int :=
 if 128 ≤ r then (a, n) else if n + 1 < 8 * (r % 64 + 1) * (m + 1) then (a, n + 1)
 else if r % 128 < 64 then (a - min a 1, 0) else if a < 32 then (a + 1, 0) else (a, 0)
def clkV (v : V) (m : Int) : V := { v with vgain := (clkS v.vreg v.vgain v.vn m).1, vn := (clkS v.vreg v.vgain v.vn m).2 }
set_option maxHeartbeats 4000000 in
theorem clkV_calls (base : Nat) (g : Nat) (v : V) (W : World) (h : Is base W g v) (hr : U8 v.vreg) (hg : 0 ≤ v.vgain ∧ v.vgain < 64) (hn : 0 ≤ v.vn ∧ v.vn < 131072) (m : Int) (hm : U8 m) :
  Calls Tryd.prog 78 #[.pointer (some ⟨g, 139, none⟩), .int .u8 m] W fun e W' => e = .returned (.tuple #[]) ∧ Is base W' g (clkV v m) ∧ Turn base W W' (One g) := by
 have H := Aside0.mk h
 have c1 : W.cell? ⟨g, 139, none⟩ = some (.int .u8 v.vreg) := h.tail_ 0
 have c2 : W.cell? ⟨g, 140, none⟩ = some (.int .u8 v.vgain) := h.tail_ 1
 have c3 : W.cell? ⟨g, 141, none⟩ = some (.int .i64 v.vn) := h.tail_ 2
 have f2 := h.frozen 140
 have f3 := h.frozen 141
 have a128 := and128 _ hr.1 hr.2
 have a63 := and63 _ hr.1 hr.2
 have a64 := and64 _ hr.1 hr.2
 obtain ⟨n0, n1⟩ := hn
 obtain ⟨g0, g1⟩ := hg
 obtain ⟨m0, m1⟩ := hm
 have hr6 : 0 ≤ v.vreg % 64 ∧ v.vreg % 64 < 64 := by omega
 unfold clkV clkS
 by_cases h1 : 128 ≤ v.vreg
 ·rw [if_pos h1] at a128 ⊢
  clear h hr h1
  go_enter Tryd.func78, Tryd.ntmps78
  go_wp2
  first | go_end0 | ((try simp only [Exit.inBlock, Exit.then]); refine bodyPost_ret (results_none rfl _ _ _) rfl ?_)
  exact ⟨rfl, H.out, Turn.refl base W (One g)⟩
 ·rw [if_neg h1] at a128 ⊢
  have b0 : (0 : Int) ≤ 8 * (v.vreg % 64 + 1) := by omega
  have b1 : 0 ≤ 8 * (v.vreg % 64 + 1) * (m + 1) := Int.mul_nonneg b0 (by omega)
  have b2 : 8 * (v.vreg % 64 + 1) * (m + 1) ≤ 512 * 256 := Int.mul_le_mul (by omega) (by omega) (by omega) (by decide)
  have w1 : wrap64 (8 * wrap64 (v.vreg % 64 + 1)) = 8 * (v.vreg % 64 + 1) := by rw [wr64 (n := v.vreg % 64 + 1) (by omega) (by omega)]; exact wr64 (by omega) (by omega)
  clear h hr h1
  generalize v.vreg % 64 = x at *
  generalize hP : 8 * (x + 1) * (m + 1) = P at *
  have K1 := Aside0.mk (H.out.set_tail 2 (.int .i64 (v.vn + 1)) (v' := { v with vn := v.vn + 1 }) rfl rfl rfl rfl)
  have K2 := Aside0.mk (((K1.out).drewN 0).set_tail 2 (.int .i64 0) (v' := { v with vn := 0 }) rfl rfl rfl rfl)
  have T1 := Aside0.mk ((Turn.refl base W (One g)).set_ (i := 141) rfl H.out.base (.int .i64 (v.vn + 1)))
  by_cases h2 : v.vn + 1 < P
  ·rw [if_pos h2]
   have d2 : decide (v.vn + 1 < P) = true := decide_eq_true h2
   clear h2
   go_enter Tryd.func78, Tryd.ntmps78
   go_wp2
   go_quiet (fail)
   go_wp2
   first | go_end0 | ((try simp only [Exit.inBlock, Exit.then]); refine bodyPost_ret (results_none rfl _ _ _) rfl ?_)
   exact ⟨rfl, K1.out.drewN _, T1.out.drewN _⟩
  ·rw [if_neg h2]
   have d2 : decide (v.vn + 1 < P) = false := decide_eq_false h2
   clear h2
   by_cases h3 : v.vreg % 128 < 64
   ·rw [if_pos h3]
    rw [if_neg (by omega)] at a64
    clear h3
    by_cases h5 : 1 < v.vgain
    ·have d5 : decide (1 < v.vgain) = true := decide_eq_true h5
     have w5 : IntKind.u8.wrap (v.vgain - 1) = v.vgain - 1 := by rw [IntKind.wrap_u8]; omega
     have w6 : (v.vgain - 1) % 256 = v.vgain - 1 := by omega
     rw [show min v.vgain 1 = 1 by omega]
     go_enter Tryd.func78, Tryd.ntmps78
     go_wp2
     go_quiet (fail)
     go_wp2
     refine start_ (n := 13) (S := fun w' => w'.cell? ⟨g, 140, none⟩ = some (.int .u8 v.vgain)) (ds := [12]) #[false, false, false, false, false, false, false, false, false, false, false, false, false] (by kernel_rfl) rfl rfl (by exact ((K1.out.drewN _).set_tail 2 (.int .i64 0) (v' := { v with vn := 0 }) rfl rfl rfl rfl).tail_ 1) (fun hHeld => ?_)
     refine pure_ (i := 0) (N := some 44) (v := ?_) (a' := ?_) #[true, false, false, false, false, false, false, false, false, false, false, false, false] rfl rfl (by kernel_rfl) (fun _ _ _ h => h) (Or.inl ⟨by rfl, ?_⟩) ?_ ?_
     rotate_left
     ·intro w'
      go_simp
      with_reducible rfl
     rotate_left
     ·simp only [Act.put, List.setIfInBounds_toArray, List.set_cons_zero, List.set_cons_succ, i64_w, i32_w]
      rfl
     refine pure_ (i := 1) (N := some 45) (v := ?_) (a' := ?_) #[true, true, false, false, false, false, false, false, false, false, false, false, false] rfl rfl (by kernel_rfl) (fun _ _ _ h => h) (Or.inl ⟨by rfl, ?_⟩) ?_ ?_
     rotate_left
     ·intro w'
      go_simp
      with_reducible rfl
     rotate_left
     ·simp only [Act.put, List.setIfInBounds_toArray, List.set_cons_zero, List.set_cons_succ, i64_w, i32_w]
      rfl
     refine pure_ (i := 2) (N := some 46) (v := ?_) (a' := ?_) #[true, true, true, false, false, false, false, false, false, false, false, false, false] rfl rfl (by kernel_rfl) (fun _ _ _ h => h) (Or.inl ⟨by rfl, ?_⟩) ?_ ?_
     rotate_left
     ·intro w'
      go_simp
      with_reducible rfl
     rotate_left
     ·simp only [Act.put, List.setIfInBounds_toArray, List.set_cons_zero, List.set_cons_succ, i64_w, i32_w]
      rfl
     refine pure_ (i := 4) (N := some 48) (v := ?_) (a' := ?_) #[true, true, true, false, true, false, false, false, false, false, false, false, false] rfl rfl (by kernel_rfl) (fun _ _ _ h => h) (Or.inl ⟨by rfl, ?_⟩) ?_ ?_
     rotate_left
     ·intro w'
      go_simp
      with_reducible rfl
     rotate_left
     ·simp only [Act.put, List.setIfInBounds_toArray, List.set_cons_zero, List.set_cons_succ, i64_w, i32_w]
      rfl
     refine pure_ (i := 5) (N := some 49) (v := ?_) (a' := ?_) #[true, true, true, false, true, true, false, false, false, false, false, false, false] rfl rfl (by kernel_rfl) (fun _ _ _ h => h) (Or.inl ⟨by rfl, ?_⟩) ?_ ?_
     rotate_left
     ·intro w'
      go_simp
      with_reducible rfl
     rotate_left
     ·simp only [Act.put, List.setIfInBounds_toArray, List.set_cons_zero, List.set_cons_succ, i64_w, i32_w]
      rfl
     refine pure_ (i := 6) (N := some 50) (v := ?_) (a' := ?_) #[true, true, true, false, true, true, true, false, false, false, false, false, false] rfl rfl (by kernel_rfl) (fun _ _ _ h => h) (Or.inl ⟨by rfl, ?_⟩) ?_ ?_
     rotate_left
     ·intro w'
      go_simp
      with_reducible rfl
     rotate_left
     ·simp only [Act.put, List.setIfInBounds_toArray, List.set_cons_zero, List.set_cons_succ, i64_w, i32_w]
      rfl
     refine take_ (i := 3) (N := some 47) (v := ?_) (a' := ?_) #[true, true, true, true, true, true, true, false, false, false, false, false, false] rfl rfl (by kernel_rfl) (fun _ _ _ h => h) (Or.inl ⟨by rfl, ?_⟩) hHeld ?_ ?_
     rotate_left
     ·intro w' s0
      go_simp
      with_reducible rfl
     rotate_left
     ·simp only [Act.put, List.setIfInBounds_toArray, List.set_cons_zero, List.set_cons_succ, i64_w, i32_w]
      rfl
     refine take_ (i := 7) (N := some 51) (v := ?_) (a' := ?_) #[true, true, true, true, true, true, true, true, false, false, false, false, false] rfl rfl (by kernel_rfl) (fun _ _ _ h => h) (Or.inl ⟨by rfl, ?_⟩) hHeld ?_ ?_
     rotate_left
     ·intro w' s0
      go_simp
      with_reducible rfl
     rotate_left
     ·simp only [Act.put, List.setIfInBounds_toArray, List.set_cons_zero, List.set_cons_succ, i64_w, i32_w]
      rfl
     refine pure_ (i := 8) (N := some 52) (v := ?_) (a' := ?_) #[true, true, true, true, true, true, true, true, true, false, false, false, false] rfl rfl (by kernel_rfl) (fun _ _ _ h => h) (Or.inl ⟨by rfl, ?_⟩) ?_ ?_
     rotate_left
     ·intro w'
      go_simp
      with_reducible rfl
     rotate_left
     ·simp only [Act.put, List.setIfInBounds_toArray, List.set_cons_zero, List.set_cons_succ, i64_w, i32_w]
      rfl
     refine pure_ (i := 9) (N := some 53) (v := ?_) (a' := ?_) #[true, true, true, true, true, true, true, true, true, true, false, false, false] rfl rfl (by kernel_rfl) (fun _ _ _ h => h) (Or.inl ⟨by rfl, ?_⟩) ?_ ?_
     rotate_left
     ·intro w'
      go_simp
      with_reducible rfl
     rotate_left
     ·simp only [Act.put, List.setIfInBounds_toArray, List.set_cons_zero, List.set_cons_succ, i64_w, i32_w]
      rfl
     refine pure_ (i := 10) (N := some 54) (v := ?_) (a' := ?_) #[true, true, true, true, true, true, true, true, true, true, true, false, false] rfl rfl (by kernel_rfl) (fun _ _ _ h => h) (Or.inl ⟨by rfl, ?_⟩) ?_ ?_
     rotate_left
     ·intro w'
      go_simp
      with_reducible rfl
     rotate_left
     ·simp only [Act.put, List.setIfInBounds_toArray, List.set_cons_zero, List.set_cons_succ, i64_w, i32_w]
      rfl
     refine pure_ (i := 11) (N := some 55) (v := ?_) (a' := ?_) #[true, true, true, true, true, true, true, true, true, true, true, true, false] rfl rfl (by kernel_rfl) (fun _ _ _ h => h) (Or.inl ⟨by rfl, ?_⟩) ?_ ?_
     rotate_left
     ·intro w'
      go_simp
      with_reducible rfl
     rotate_left
     ·simp only [Act.put, List.setIfInBounds_toArray, List.set_cons_zero, List.set_cons_succ, i64_w, i32_w]
      rfl
     refine last_ (i := 12) (N := none) #[true, true, true, true, true, true, true, true, true, true, true, true, true] rfl rfl (by kernel_rfl) (by decide) (fun K hK => ?_)
     refine skip_ (w1 := ?_) (by rfl) rfl ?_ ?_
     rotate_left
     ·go_simp
      rfl
     refine hK.out _ _ ?_
     clear hK K
     refine done_ (by kernel_rfl) ?_
     go_wp2
     go_end0
     refine ⟨rfl, ?_, (((T1.out.drewN _).set_ rfl H.out.base _).drew).set_ rfl H.out.base _⟩
     exact ((((K1.out.drewN _).set_tail 2 (.int .i64 0) (v' := { v with vn := 0 }) rfl rfl rfl rfl).drew).set_tail 1 _ rfl rfl rfl rfl)
    ·have d5 : decide (1 < v.vgain) = false := decide_eq_false h5
     rw [show v.vgain - min v.vgain 1 = 0 by omega]
     go_enter Tryd.func78, Tryd.ntmps78
     go_wp2
     go_quiet (fail)
     go_wp2
     refine start_ (n := 13) (S := fun w' => w'.cell? ⟨g, 140, none⟩ = some (.int .u8 v.vgain)) (ds := [12]) #[false, false, false, false, false, false, false, false, false, false, false, false, false] (by kernel_rfl) rfl rfl (by exact ((K1.out.drewN _).set_tail 2 (.int .i64 0) (v' := { v with vn := 0 }) rfl rfl rfl rfl).tail_ 1) (fun hHeld => ?_)
     refine pure_ (i := 0) (N := some 44) (v := ?_) (a' := ?_) #[true, false, false, false, false, false, false, false, false, false, false, false, false] rfl rfl (by kernel_rfl) (fun _ _ _ h => h) (Or.inl ⟨by rfl, ?_⟩) ?_ ?_
     rotate_left
     ·intro w'
      go_simp
      with_reducible rfl
     rotate_left
     ·simp only [Act.put, List.setIfInBounds_toArray, List.set_cons_zero, List.set_cons_succ, i64_w, i32_w]
      rfl
     refine pure_ (i := 1) (N := some 45) (v := ?_) (a' := ?_) #[true, true, false, false, false, false, false, false, false, false, false, false, false] rfl rfl (by kernel_rfl) (fun _ _ _ h => h) (Or.inl ⟨by rfl, ?_⟩) ?_ ?_
     rotate_left
     ·intro w'
      go_simp
      with_reducible rfl
     rotate_left
     ·simp only [Act.put, List.setIfInBounds_toArray, List.set_cons_zero, List.set_cons_succ, i64_w, i32_w]
      rfl
     refine pure_ (i := 2) (N := some 46) (v := ?_) (a' := ?_) #[true, true, true, false, false, false, false, false, false, false, false, false, false] rfl rfl (by kernel_rfl) (fun _ _ _ h => h) (Or.inl ⟨by rfl, ?_⟩) ?_ ?_
     rotate_left
     ·intro w'
      go_simp
      with_reducible rfl
     rotate_left
     ·simp only [Act.put, List.setIfInBounds_toArray, List.set_cons_zero, List.set_cons_succ, i64_w, i32_w]
      rfl
     refine pure_ (i := 4) (N := some 48) (v := ?_) (a' := ?_) #[true, true, true, false, true, false, false, false, false, false, false, false, false] rfl rfl (by kernel_rfl) (fun _ _ _ h => h) (Or.inl ⟨by rfl, ?_⟩) ?_ ?_
     rotate_left
     ·intro w'
      go_simp
      with_reducible rfl
     rotate_left
     ·simp only [Act.put, List.setIfInBounds_toArray, List.set_cons_zero, List.set_cons_succ, i64_w, i32_w]
      rfl
     refine pure_ (i := 5) (N := some 49) (v := ?_) (a' := ?_) #[true, true, true, false, true, true, false, false, false, false, false, false, false] rfl rfl (by kernel_rfl) (fun _ _ _ h => h) (Or.inl ⟨by rfl, ?_⟩) ?_ ?_
     rotate_left
     ·intro w'
      go_simp
      with_reducible rfl
     rotate_left
     ·simp only [Act.put, List.setIfInBounds_toArray, List.set_cons_zero, List.set_cons_succ, i64_w, i32_w]
      rfl
     refine pure_ (i := 6) (N := some 50) (v := ?_) (a' := ?_) #[true, true, true, false, true, true, true, false, false, false, false, false, false] rfl rfl (by kernel_rfl) (fun _ _ _ h => h) (Or.inl ⟨by rfl, ?_⟩) ?_ ?_
     rotate_left
     ·intro w'
      go_simp
      with_reducible rfl
     rotate_left
     ·simp only [Act.put, List.setIfInBounds_toArray, List.set_cons_zero, List.set_cons_succ, i64_w, i32_w]
      rfl
     refine take_ (i := 3) (N := some 47) (v := ?_) (a' := ?_) #[true, true, true, true, true, true, true, false, false, false, false, false, false] rfl rfl (by kernel_rfl) (fun _ _ _ h => h) (Or.inl ⟨by rfl, ?_⟩) hHeld ?_ ?_
     rotate_left
     ·intro w' s0
      go_simp
      with_reducible rfl
     rotate_left
     ·simp only [Act.put, List.setIfInBounds_toArray, List.set_cons_zero, List.set_cons_succ, i64_w, i32_w]
      rfl
     refine take_ (i := 7) (N := some 51) (v := ?_) (a' := ?_) #[true, true, true, true, true, true, true, true, false, false, false, false, false] rfl rfl (by kernel_rfl) (fun _ _ _ h => h) (Or.inl ⟨by rfl, ?_⟩) hHeld ?_ ?_
     rotate_left
     ·intro w' s0
      go_simp
      with_reducible rfl
     rotate_left
     ·simp only [Act.put, List.setIfInBounds_toArray, List.set_cons_zero, List.set_cons_succ, i64_w, i32_w]
      rfl
     refine pure_ (i := 8) (N := some 52) (v := ?_) (a' := ?_) #[true, true, true, true, true, true, true, true, true, false, false, false, false] rfl rfl (by kernel_rfl) (fun _ _ _ h => h) (Or.inl ⟨by rfl, ?_⟩) ?_ ?_
     rotate_left
     ·intro w'
      go_simp
      with_reducible rfl
     rotate_left
     ·simp only [Act.put, List.setIfInBounds_toArray, List.set_cons_zero, List.set_cons_succ, i64_w, i32_w]
      rfl
     refine pure_ (i := 9) (N := some 53) (v := ?_) (a' := ?_) #[true, true, true, true, true, true, true, true, true, true, false, false, false] rfl rfl (by kernel_rfl) (fun _ _ _ h => h) (Or.inl ⟨by rfl, ?_⟩) ?_ ?_
     rotate_left
     ·intro w'
      go_simp
      with_reducible rfl
     rotate_left
     ·simp only [Act.put, List.setIfInBounds_toArray, List.set_cons_zero, List.set_cons_succ, i64_w, i32_w]
      rfl
     refine pure_ (i := 10) (N := some 54) (v := ?_) (a' := ?_) #[true, true, true, true, true, true, true, true, true, true, true, false, false] rfl rfl (by kernel_rfl) (fun _ _ _ h => h) (Or.inl ⟨by rfl, ?_⟩) ?_ ?_
     rotate_left
     ·intro w'
      go_simp
      with_reducible rfl
     rotate_left
     ·simp only [Act.put, List.setIfInBounds_toArray, List.set_cons_zero, List.set_cons_succ, i64_w, i32_w]
      rfl
     refine pure_ (i := 11) (N := some 55) (v := ?_) (a' := ?_) #[true, true, true, true, true, true, true, true, true, true, true, true, false] rfl rfl (by kernel_rfl) (fun _ _ _ h => h) (Or.inl ⟨by rfl, ?_⟩) ?_ ?_
     rotate_left
     ·intro w'
      go_simp
      with_reducible rfl
     rotate_left
     ·simp only [Act.put, List.setIfInBounds_toArray, List.set_cons_zero, List.set_cons_succ, i64_w, i32_w]
      rfl
     refine last_ (i := 12) (N := none) #[true, true, true, true, true, true, true, true, true, true, true, true, true] rfl rfl (by kernel_rfl) (by decide) (fun K hK => ?_)
     refine skip_ (w1 := ?_) (by rfl) rfl ?_ ?_
     rotate_left
     ·go_simp
      rfl
     refine hK.out _ _ ?_
     clear hK K
     refine done_ (by kernel_rfl) ?_
     go_wp2
     go_end0
     refine ⟨rfl, ?_, (((T1.out.drewN _).set_ rfl H.out.base _).drew).set_ rfl H.out.base _⟩
     exact ((((K1.out.drewN _).set_tail 2 (.int .i64 0) (v' := { v with vn := 0 }) rfl rfl rfl rfl).drew).set_tail 1 _ rfl rfl rfl rfl)
   ·rw [if_neg h3]
    rw [if_pos (by omega)] at a64
    clear h3
    by_cases h4 : v.vgain < 32
    ·rw [if_pos h4]
     have d4 : decide (v.vgain < 32) = true := decide_eq_true h4
     clear h4
     go_enter Tryd.func78, Tryd.ntmps78
     go_wp2
     go_quiet (fail)
     go_wp2
     go_end0
     exact ⟨rfl, ((K1.out.drewN _).set_tail 2 (.int .i64 0) (v' := { v with vn := 0 }) rfl rfl rfl rfl).set_tail 1 _ rfl rfl rfl rfl, ((T1.out.drewN _).set_ rfl H.out.base _).set_ rfl H.out.base _⟩
    ·rw [if_neg h4]
     have d4 : decide (v.vgain < 32) = false := decide_eq_false h4
     clear h4
     go_enter Tryd.func78, Tryd.ntmps78
     go_wp2
     go_quiet (fail)
     go_wp2
     go_end0
     exact ⟨rfl, (K1.out.drewN _).set_tail 2 (.int .i64 0) (v' := { v with vn := 0 }) rfl rfl rfl rfl, (T1.out.drewN _).set_ rfl H.out.base _⟩
end Go.Proofs.YtaiaapjlpbhlbaaDoor.Wave
