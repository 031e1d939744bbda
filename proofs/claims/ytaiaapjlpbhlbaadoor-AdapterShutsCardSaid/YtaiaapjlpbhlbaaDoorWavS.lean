/-
  THE REFERENCE's Get and Out, each by its contract. By the prover of this repo.
-/
import Derived.Test.YtaiaapjlpbhlbaaDoorWavR
namespace Go.Proofs.YtaiaapjlpbhlbaaDoor.Wave
open Go.RowKit Go.Proofs.YtaiaapjlpbhlbaaDoor.Pitch Go.Proofs.YtaiaapjlpbhlbaaDoor.PAdapterTimes Go.Proofs.YtaiaapjlpbhlbaaDoorW.PrintWords Go.Proofs.YtaiaapjlpbhlbaaDoorW.PrintLast Go.Proofs.YtaiaapjlpbhlbaaDoorW.PrintMore
set_option linter.unusedVariables false
set_option linter.unusedSimpArgs false
set_option maxRecDepth 20000
def getR (v : V) (a : Int) : Int := if (getV v a).2 = true then (getV v a).1 else -1
theorem rget_calls (base : Nat) (g : Nat) (v : V) (cy : Int) (W : World) (h : IsR base W g v cy) (hw : Wf v) (a : Int) (a0 : 0 ≤ a) (a1 : a < 65536) :
    Calls Tryd.prog 58 #[.pointer (some ⟨g, 0, none⟩), .int .i64 a] W fun e W' => e = .returned (.int .i64 (getR v a)) ∧ W = W' := by
  have cv : W.cell? ⟨g, 140, none⟩ = some (.int .i64 v.vgain) := h.tail_ 1
  have cm : W.cell? ⟨g, 143, none⟩ = some (.int .i64 v.mgain) := h.tail_ 4
  have wv : wrap64 (v.vgain + 64) = v.vgain + 64 := wr64 (by have := hw.vgain; omega) (by have := hw.vgain; omega)
  have wm : wrap64 (v.mgain + 64) = v.mgain + 64 := wr64 (by have := hw.mgain; omega) (by have := hw.mgain; omega)
  unfold getR getV
  by_cases h1 : 16448 ≤ a ∧ a < 16512
  · rw [if_pos h1, if_pos rfl]
    have ct := h.table_ (a - 16448) (by omega) (by omega)
    have wt : wrap64 (rd v.table (a - 16448) + 64) = rd v.table (a - 16448) + 64 := wr64 (by have := hw.table (a - 16448); omega) (by have := hw.table (a - 16448); omega)
    have ws : wrap64 (a - 16448) = a - 16448 := wr64 (by omega) (by omega)
    have t1 : decide (16448 ≤ a) = true := decide_eq_true h1.1
    have t2 : decide (a < 16512) = true := decide_eq_true h1.2
    have p0 := eq_true (show 0 ≤ a - 16448 by omega)
    have p1 := eq_true (show a - 16448 < 64 by omega)
    obtain ⟨h10, h11⟩ := h1
    clear h hw
    go_enter Tryd.func58, Tryd.ntmps58
    go_wp2
    go_ret
    exact ⟨congrArg (fun x => Ending.returned (.int .i64 x)) wt, rfl⟩
  · rw [if_neg h1]
    have t1 : (decide (16448 ≤ a) && decide (a < 16512)) = false := by simp; omega
    by_cases h2 : a = 16528
    · subst h2
      rw [if_pos rfl, if_pos rfl]
      clear h hw t1 h1
      go_enter Tryd.func58, Tryd.ntmps58
      go_wp2
      go_ret
      exact ⟨congrArg (fun x => Ending.returned (.int .i64 x)) wv, rfl⟩
    · by_cases h3 : a = 16530
      · subst h3
        rw [if_neg h2, if_pos rfl, if_pos rfl]
        clear h hw t1 h1 h2
        go_enter Tryd.func58, Tryd.ntmps58
        go_wp2
        go_ret
        exact ⟨congrArg (fun x => Ending.returned (.int .i64 x)) wm, rfl⟩
      · rw [if_neg h2, if_neg h3, if_neg (by decide)]
        have t2 : (a == 16528) = false := by simpa using h2
        have t3 : (a == 16530) = false := by simpa using h3
        by_cases h4 : 16448 ≤ a
        all_goals
          first | have t4 : decide (16448 ≤ a) = true := decide_eq_true h4 | have t4 : decide (16448 ≤ a) = false := decide_eq_false h4
          first | have t5 : decide (a < 16512) = false := decide_eq_false (by omega) | have t5 : True := trivial
          clear h hw h1 h2 h3 t1
          go_enter Tryd.func58, Tryd.ntmps58
          go_wp2
          go_ret
          exact ⟨rfl, rfl⟩
theorem vol3 (y s m : Int) (y0 : 0 ≤ y) (y1 : y < 64) (s0 : 0 ≤ s) (s1 : s ≤ 32) (m0 : 0 ≤ m) (m1 : m ≤ 30) : wrap64 (wrap64 (y * s) * m) = y * s * m := by
  have h1 : y * s ≤ 63 * 32 := Int.mul_le_mul (by omega) s1 s0 (by decide)
  have h0 : 0 ≤ y * s := Int.mul_nonneg y0 s0
  have h3 : y * s * m ≤ 63 * 32 * 30 := Int.mul_le_mul h1 m1 m0 (by decide)
  have h2 : 0 ≤ y * s * m := Int.mul_nonneg h0 m0
  rw [wr64 (n := y * s) (by omega) (by omega), wr64 (by omega) (by omega)]
theorem rout_on (base : Nat) (g : Nat) (v : V) (cy : Int) (W : World) (h : IsR base W g v cy) (hw : Wf v) (ho : on v) :
    Calls Tryd.prog 67 #[.pointer (some ⟨g, 0, none⟩)] W fun e W' => e = .returned (.int .i64 (outV v)) ∧ ∃ n, W' = W.drewN n := by
  have c9 : W.cell? ⟨g, 137, none⟩ = some (.int .i64 (rd v.reg 9)) := h.reg_ 9 (by decide)
  have ck : W.cell? ⟨g, 151, none⟩ = some (.int .i64 v.held) := h.tail_ 12
  have H := Aside0.mk h
  have HAS := Aside0.mk (has_calls (rd v.reg 9) 128 (hw.reg 9) (.inl rfl) W)
  have e : decide ((128 : Int) ≤ rd v.reg 9 % (2 * 128)) = true := decide_eq_true (by have := hw.reg 9; unfold on at ho; unfold U8 at this; omega)
  rw [e] at HAS
  have eo : outV v = v.held := if_pos ho
  rw [eo]
  clear h hw ho e eo
  go_enter Tryd.func67, Tryd.ntmps67
  go_wp2_with (go_at_call 85; refine HAS.out.mono ?_; rintro e w3 ⟨rfl, n3, rfl⟩)
  go_ret
  exact ⟨rfl, n3, rfl⟩
set_option maxRecDepth 20000 in
set_option maxHeartbeats 8000000 in
theorem rout_off (base : Nat) (g : Nat) (v : V) (cy : Int) (W : World) (h : IsR base W g v cy) (hw : Wf v) (ho : ¬ on v) :
    Calls Tryd.prog 67 #[.pointer (some ⟨g, 0, none⟩)] W fun e W' => e = .returned (.int .i64 (outV v)) ∧ Below W.heap.size W W' := by
  have c9 : W.cell? ⟨g, 137, none⟩ = some (.int .i64 (rd v.reg 9)) := h.reg_ 9 (by decide)
  have H := Aside0.mk h
  have HW := Aside0.mk hw
  have HAS := Aside0.mk (has_calls (rd v.reg 9) 128 (hw.reg 9) (.inl rfl) W)
  have e : decide ((128 : Int) ≤ rd v.reg 9 % (2 * 128)) = false := decide_eq_false (by have := hw.reg 9; unfold on at ho; unfold U8 at this; omega)
  rw [e] at HAS
  have eo : outV v = rd v.table v.wat * min v.vgain 32 * rd ML (rd v.reg 9 % 4) := if_neg ho
  rw [eo]
  have hr := hw.reg 9
  have m9 : (rd v.reg 9).tmod 4 = rd v.reg 9 % 4 := Int.tmod_eq_emod_of_nonneg hr.1
  have q0 := eq_true hw.wat.1
  have q1 := eq_true hw.wat.2
  have wm : min v.vgain 32 = if v.vgain ≤ 32 then v.vgain else 32 := by omega
  have hlt : 0 ≤ rd v.table v.wat ∧ rd v.table v.wat < 64 := hw.table v.wat
  have HLT := Aside0.mk hlt
  have h4 : rd v.reg 9 % 4 = 0 ∨ rd v.reg 9 % 4 = 1 ∨ rd v.reg 9 % 4 = 2 ∨ rd v.reg 9 % 4 = 3 := by omega
  clear h hw ho e eo hr hlt wm
  rcases h4 with h4 | h4 | h4 | h4
  all_goals
    rw [h4] at m9 ⊢
    clear h4
    go_enter Tryd.func67, Tryd.ntmps67
    go_wp2_with (go_at_call 85; refine HAS.out.mono ?_; rintro e w3 ⟨rfl, n3, rfl⟩)
    have H3 := Aside0.mk ((H.out.drewN n3).drew)
    have hn0 : ((W.drewN (n3 + 1)).alloc (.cells #[.int .i64 30, .int .i64 20, .int .i64 15, .int .i64 12] 3)).cell? ⟨W.heap.size, 0, none⟩ = some (.int .i64 30) := At.cell (cs := #[.int .i64 30, .int .i64 20, .int .i64 15, .int .i64 12]) (heap_alloc_new (W.drewN (n3 + 1)) _) 0
    have hn1 : ((W.drewN (n3 + 1)).alloc (.cells #[.int .i64 30, .int .i64 20, .int .i64 15, .int .i64 12] 3)).cell? ⟨W.heap.size, 1, none⟩ = some (.int .i64 20) := At.cell (cs := #[.int .i64 30, .int .i64 20, .int .i64 15, .int .i64 12]) (heap_alloc_new (W.drewN (n3 + 1)) _) 1
    have hn2 : ((W.drewN (n3 + 1)).alloc (.cells #[.int .i64 30, .int .i64 20, .int .i64 15, .int .i64 12] 3)).cell? ⟨W.heap.size, 2, none⟩ = some (.int .i64 15) := At.cell (cs := #[.int .i64 30, .int .i64 20, .int .i64 15, .int .i64 12]) (heap_alloc_new (W.drewN (n3 + 1)) _) 2
    have hn3 : ((W.drewN (n3 + 1)).alloc (.cells #[.int .i64 30, .int .i64 20, .int .i64 15, .int .i64 12] 3)).cell? ⟨W.heap.size, 3, none⟩ = some (.int .i64 12) := At.cell (cs := #[.int .i64 30, .int .i64 20, .int .i64 15, .int .i64 12]) (heap_alloc_new (W.drewN (n3 + 1)) _) 3
    refine start_ (n := 27) (S := fun w' => w'.cell? ⟨g, 147, none⟩ = some (.int .i64 v.wat) ∧ w'.cell? ⟨g, v.wat.toNat, none⟩ = some (.int .i64 (rd v.table v.wat)) ∧ w'.cell? ⟨g, 140, none⟩ = some (.int .i64 v.vgain) ∧ w'.cell? ⟨g, 137, none⟩ = some (.int .i64 (rd v.reg 9))) (ds := []) #[false, false, false, false, false, false, false, false, false, false, false, false, false, false, false, false, false, false, false, false, false, false, false, false, false, false, false] (by kernel_rfl) rfl rfl ⟨H3.out.tail_ 8, H3.out.table_ _ HW.out.wat.1 HW.out.wat.2, H3.out.tail_ 1, H3.out.reg_ 9 (by decide)⟩ (fun hHeld => ?_)
    refine pure_ (i := 0) (N := some 13) (v := ?_) (a' := ?_) #[true, false, false, false, false, false, false, false, false, false, false, false, false, false, false, false, false, false, false, false, false, false, false, false, false, false, false] rfl rfl (by kernel_rfl) (fun _ _ _ h => h) (Or.inl ⟨by rfl, ?_⟩) ?_ ?_
    rotate_left
    · intro w'
      go_simp
      with_reducible rfl
    rotate_left
    · simp only [Act.put, List.setIfInBounds_toArray, List.set_cons_zero, List.set_cons_succ, i64_w, i32_w]
      rfl
    refine pure_ (i := 1) (N := some 14) (v := ?_) (a' := ?_) #[true, true, false, false, false, false, false, false, false, false, false, false, false, false, false, false, false, false, false, false, false, false, false, false, false, false, false] rfl rfl (by kernel_rfl) (fun _ _ _ h => h) (Or.inl ⟨by rfl, ?_⟩) ?_ ?_
    rotate_left
    · intro w'
      go_simp
      with_reducible rfl
    rotate_left
    · simp only [Act.put, List.setIfInBounds_toArray, List.set_cons_zero, List.set_cons_succ, i64_w, i32_w]
      rfl
    refine pure_ (i := 2) (N := some 15) (v := ?_) (a' := ?_) #[true, true, true, false, false, false, false, false, false, false, false, false, false, false, false, false, false, false, false, false, false, false, false, false, false, false, false] rfl rfl (by kernel_rfl) (fun _ _ _ h => h) (Or.inl ⟨by rfl, ?_⟩) ?_ ?_
    rotate_left
    · intro w'
      go_simp
      with_reducible rfl
    rotate_left
    · simp only [Act.put, List.setIfInBounds_toArray, List.set_cons_zero, List.set_cons_succ, i64_w, i32_w]
      rfl
    refine pure_ (i := 3) (N := some 16) (v := ?_) (a' := ?_) #[true, true, true, true, false, false, false, false, false, false, false, false, false, false, false, false, false, false, false, false, false, false, false, false, false, false, false] rfl rfl (by kernel_rfl) (fun _ _ _ h => h) (Or.inl ⟨by rfl, ?_⟩) ?_ ?_
    rotate_left
    · intro w'
      go_simp
      with_reducible rfl
    rotate_left
    · simp only [Act.put, List.setIfInBounds_toArray, List.set_cons_zero, List.set_cons_succ, i64_w, i32_w]
      rfl
    refine pure_ (i := 5) (N := some 18) (v := ?_) (a' := ?_) #[true, true, true, true, false, true, false, false, false, false, false, false, false, false, false, false, false, false, false, false, false, false, false, false, false, false, false] rfl rfl (by kernel_rfl) (fun _ _ _ h => h) (Or.inl ⟨by rfl, ?_⟩) ?_ ?_
    rotate_left
    · intro w'
      go_simp
      with_reducible rfl
    rotate_left
    · simp only [Act.put, List.setIfInBounds_toArray, List.set_cons_zero, List.set_cons_succ, i64_w, i32_w]
      rfl
    refine pure_ (i := 6) (N := some 19) (v := ?_) (a' := ?_) #[true, true, true, true, false, true, true, false, false, false, false, false, false, false, false, false, false, false, false, false, false, false, false, false, false, false, false] rfl rfl (by kernel_rfl) (fun _ _ _ h => h) (Or.inl ⟨by rfl, ?_⟩) ?_ ?_
    rotate_left
    · intro w'
      go_simp
      with_reducible rfl
    rotate_left
    · simp only [Act.put, List.setIfInBounds_toArray, List.set_cons_zero, List.set_cons_succ, i64_w, i32_w]
      rfl
    refine pure_ (i := 9) (N := some 22) (v := ?_) (a' := ?_) #[true, true, true, true, false, true, true, false, false, true, false, false, false, false, false, false, false, false, false, false, false, false, false, false, false, false, false] rfl rfl (by kernel_rfl) (fun _ _ _ h => h) (Or.inl ⟨by rfl, ?_⟩) ?_ ?_
    rotate_left
    · intro w'
      go_simp
      with_reducible rfl
    rotate_left
    · simp only [Act.put, List.setIfInBounds_toArray, List.set_cons_zero, List.set_cons_succ, i64_w, i32_w]
      rfl
    refine pure_ (i := 10) (N := some 23) (v := ?_) (a' := ?_) #[true, true, true, true, false, true, true, false, false, true, true, false, false, false, false, false, false, false, false, false, false, false, false, false, false, false, false] rfl rfl (by kernel_rfl) (fun _ _ _ h => h) (Or.inl ⟨by rfl, ?_⟩) ?_ ?_
    rotate_left
    · intro w'
      go_simp
      with_reducible rfl
    rotate_left
    · simp only [Act.put, List.setIfInBounds_toArray, List.set_cons_zero, List.set_cons_succ, i64_w, i32_w]
      rfl
    refine pure_ (i := 11) (N := some 24) (v := ?_) (a' := ?_) #[true, true, true, true, false, true, true, false, false, true, true, true, false, false, false, false, false, false, false, false, false, false, false, false, false, false, false] rfl rfl (by kernel_rfl) (fun _ _ _ h => h) (Or.inl ⟨by rfl, ?_⟩) ?_ ?_
    rotate_left
    · intro w'
      go_simp
      with_reducible rfl
    rotate_left
    · simp only [Act.put, List.setIfInBounds_toArray, List.set_cons_zero, List.set_cons_succ, i64_w, i32_w]
      rfl
    refine pure_ (i := 12) (N := some 25) (v := ?_) (a' := ?_) #[true, true, true, true, false, true, true, false, false, true, true, true, true, false, false, false, false, false, false, false, false, false, false, false, false, false, false] rfl rfl (by kernel_rfl) (fun _ _ _ h => h) (Or.inl ⟨by rfl, ?_⟩) ?_ ?_
    rotate_left
    · intro w'
      go_simp
      with_reducible rfl
    rotate_left
    · simp only [Act.put, List.setIfInBounds_toArray, List.set_cons_zero, List.set_cons_succ, i64_w, i32_w]
      rfl
    refine pure_ (i := 17) (N := some 30) (v := ?_) (a' := ?_) #[true, true, true, true, false, true, true, false, false, true, true, true, true, false, false, false, false, true, false, false, false, false, false, false, false, false, false] rfl rfl (by kernel_rfl) (fun _ _ _ h => h) (Or.inl ⟨by rfl, ?_⟩) ?_ ?_
    rotate_left
    · intro w'
      go_simp
      with_reducible rfl
    rotate_left
    · simp only [Act.put, List.setIfInBounds_toArray, List.set_cons_zero, List.set_cons_succ, i64_w, i32_w]
      rfl
    refine pure_ (i := 18) (N := some 31) (v := ?_) (a' := ?_) #[true, true, true, true, false, true, true, false, false, true, true, true, true, false, false, false, false, true, true, false, false, false, false, false, false, false, false] rfl rfl (by kernel_rfl) (fun _ _ _ h => h) (Or.inl ⟨by rfl, ?_⟩) ?_ ?_
    rotate_left
    · intro w'
      go_simp
      with_reducible rfl
    rotate_left
    · simp only [Act.put, List.setIfInBounds_toArray, List.set_cons_zero, List.set_cons_succ, i64_w, i32_w]
      rfl
    refine pure_ (i := 19) (N := some 32) (v := ?_) (a' := ?_) #[true, true, true, true, false, true, true, false, false, true, true, true, true, false, false, false, false, true, true, true, false, false, false, false, false, false, false] rfl rfl (by kernel_rfl) (fun _ _ _ h => h) (Or.inl ⟨by rfl, ?_⟩) ?_ ?_
    rotate_left
    · intro w'
      go_simp
      with_reducible rfl
    rotate_left
    · simp only [Act.put, List.setIfInBounds_toArray, List.set_cons_zero, List.set_cons_succ, i64_w, i32_w]
      rfl
    refine pure_ (i := 20) (N := some 33) (v := ?_) (a' := ?_) #[true, true, true, true, false, true, true, false, false, true, true, true, true, false, false, false, false, true, true, true, true, false, false, false, false, false, false] rfl rfl (by kernel_rfl) (fun _ _ _ h => h) (Or.inl ⟨by rfl, ?_⟩) ?_ ?_
    rotate_left
    · intro w'
      go_simp
      with_reducible rfl
    rotate_left
    · simp only [Act.put, List.setIfInBounds_toArray, List.set_cons_zero, List.set_cons_succ, i64_w, i32_w]
      rfl
    refine take_ (i := 4) (N := some 17) (v := ?_) (a' := ?_) #[true, true, true, true, true, true, true, false, false, true, true, true, true, false, false, false, false, true, true, true, true, false, false, false, false, false, false] rfl rfl (by kernel_rfl) (fun _ _ _ h => h) (Or.inl ⟨by rfl, ?_⟩) hHeld ?_ ?_
    rotate_left
    · rintro w' ⟨s0, s1, s2, s3⟩
      go_simp
      with_reducible rfl
    rotate_left
    · simp only [Act.put, List.setIfInBounds_toArray, List.set_cons_zero, List.set_cons_succ, i64_w, i32_w]
      rfl
    refine pure_ (i := 7) (N := some 20) (v := ?_) (a' := ?_) #[true, true, true, true, true, true, true, true, false, true, true, true, true, false, false, false, false, true, true, true, true, false, false, false, false, false, false] rfl rfl (by kernel_rfl) (fun _ _ _ h => h) (Or.inl ⟨by rfl, ?_⟩) ?_ ?_
    rotate_left
    · intro w'
      go_simp
      with_reducible rfl
    rotate_left
    · simp only [Act.put, List.setIfInBounds_toArray, List.set_cons_zero, List.set_cons_succ, i64_w, i32_w]
      rfl
    refine take_ (i := 8) (N := some 21) (v := ?_) (a' := ?_) #[true, true, true, true, true, true, true, true, true, true, true, true, true, false, false, false, false, true, true, true, true, false, false, false, false, false, false] rfl rfl (by kernel_rfl) (fun _ _ _ h => h) (Or.inl ⟨by rfl, ?_⟩) hHeld ?_ ?_
    rotate_left
    · rintro w' ⟨s0, s1, s2, s3⟩
      go_simp
      with_reducible rfl
    rotate_left
    · simp only [Act.put, List.setIfInBounds_toArray, List.set_cons_zero, List.set_cons_succ, i64_w, i32_w]
      rfl
    refine take_ (i := 13) (N := some 26) (v := ?_) (a' := ?_) #[true, true, true, true, true, true, true, true, true, true, true, true, true, true, false, false, false, true, true, true, true, false, false, false, false, false, false] rfl rfl (by kernel_rfl) (fun _ _ _ h => h) (Or.inl ⟨by rfl, ?_⟩) hHeld ?_ ?_
    rotate_left
    · rintro w' ⟨s0, s1, s2, s3⟩
      go_simp
      with_reducible rfl
    rotate_left
    · simp only [Act.put, List.setIfInBounds_toArray, List.set_cons_zero, List.set_cons_succ, i64_w, i32_w]
      rfl
    refine pure_ (i := 14) (N := some 27) (v := ?_) (a' := ?_) #[true, true, true, true, true, true, true, true, true, true, true, true, true, true, true, false, false, true, true, true, true, false, false, false, false, false, false] rfl rfl (by kernel_rfl) (fun _ _ _ h => h) (Or.inl ⟨by rfl, ?_⟩) ?_ ?_
    rotate_left
    · intro w'
      go_simp
      with_reducible rfl
    rotate_left
    · simp only [Act.put, List.setIfInBounds_toArray, List.set_cons_zero, List.set_cons_succ, i64_w, i32_w]
      rfl
    refine pure_ (i := 15) (N := some 28) (v := ?_) (a' := ?_) #[true, true, true, true, true, true, true, true, true, true, true, true, true, true, true, true, false, true, true, true, true, false, false, false, false, false, false] rfl rfl (by kernel_rfl) (fun _ _ _ h => h) (Or.inl ⟨by rfl, ?_⟩) ?_ ?_
    rotate_left
    · intro w'
      go_simp
      with_reducible rfl
    rotate_left
    · simp only [Act.put, List.setIfInBounds_toArray, List.set_cons_zero, List.set_cons_succ, i64_w, i32_w]
      rfl
    refine take_ (i := 21) (N := some 34) (v := ?_) (a' := ?_) #[true, true, true, true, true, true, true, true, true, true, true, true, true, true, true, true, false, true, true, true, true, true, false, false, false, false, false] rfl rfl (by kernel_rfl) (fun _ _ _ h => h) (Or.inl ⟨by rfl, ?_⟩) hHeld ?_ ?_
    rotate_left
    · rintro w' ⟨s0, s1, s2, s3⟩
      go_simp
      with_reducible rfl
    rotate_left
    · simp only [Act.put, List.setIfInBounds_toArray, List.set_cons_zero, List.set_cons_succ, i64_w, i32_w]
      rfl
    refine pure_ (i := 22) (N := some 35) (v := ?_) (a' := ?_) #[true, true, true, true, true, true, true, true, true, true, true, true, true, true, true, true, false, true, true, true, true, true, true, false, false, false, false] rfl rfl (by kernel_rfl) (fun _ _ _ h => h) (Or.inl ⟨by rfl, ?_⟩) ?_ ?_
    rotate_left
    · intro w'
      go_simp
      with_reducible rfl
    rotate_left
    · simp only [Act.put, List.setIfInBounds_toArray, List.set_cons_zero, List.set_cons_succ, i64_w, i32_w]
      rfl
    refine one_ (i := 16) (N := some 29) #[true, true, true, true, true, true, true, true, true, true, true, true, true, true, true, true, true, true, true, true, true, true, true, false, false, false, false] rfl rfl (by kernel_rfl) (by decide) (fun K hK => ?_)
    refine value_ (w1 := ?_) (v := ?_) (by rfl) rfl ?_ ?_
    rotate_left 2
    · go_simp
      constructor
      · rfl
      · rfl
    refine hK.out _ _ ⟨(H3.out.below (below_alloc (Below.refl _ _) _)).tail_ 8, (H3.out.below (below_alloc (Below.refl _ _) _)).table_ _ HW.out.wat.1 HW.out.wat.2, (H3.out.below (below_alloc (Below.refl _ _) _)).tail_ 1, (H3.out.below (below_alloc (Below.refl _ _) _)).reg_ 9 (by decide)⟩ (fun hHeld => ?_)
    clear hK K
    refine norm_ (a' := ?_) ?_ ?_
    rotate_left
    · show Act.put _ (some 29) _ = _
      simp only [Act.put, List.setIfInBounds_toArray, List.set_cons_zero, List.set_cons_succ, i64_w, i32_w]
      rfl
    refine pure_ (i := 23) (N := some 36) (v := ?_) (a' := ?_) #[true, true, true, true, true, true, true, true, true, true, true, true, true, true, true, true, true, true, true, true, true, true, true, true, false, false, false] rfl rfl (by kernel_rfl) (fun _ _ _ h => h) (Or.inl ⟨by rfl, ?_⟩) ?_ ?_
    rotate_left
    · intro w'
      go_simp
      with_reducible rfl
    rotate_left
    · simp only [Act.put, List.setIfInBounds_toArray, List.set_cons_zero, List.set_cons_succ, i64_w, i32_w]
      rfl
    refine one_ (i := 24) (N := some 37) #[true, true, true, true, true, true, true, true, true, true, true, true, true, true, true, true, true, true, true, true, true, true, true, true, true, false, false] rfl rfl (by kernel_rfl) (by decide) (fun K hK => ?_)
    refine value_ (w1 := ?_) (v := ?_) (by rfl) rfl ?_ ?_
    rotate_left 2
    · go_simp
      constructor
      · rfl
      · rfl
    refine hK.out _ _ ⟨(H3.out.below (below_alloc (Below.refl _ _) _)).tail_ 8, (H3.out.below (below_alloc (Below.refl _ _) _)).table_ _ HW.out.wat.1 HW.out.wat.2, (H3.out.below (below_alloc (Below.refl _ _) _)).tail_ 1, (H3.out.below (below_alloc (Below.refl _ _) _)).reg_ 9 (by decide)⟩ (fun hHeld => ?_)
    clear hK K
    refine norm_ (a' := ?_) ?_ ?_
    rotate_left
    · show Act.put _ (some 37) _ = _
      simp only [Act.put, List.setIfInBounds_toArray, List.set_cons_zero, List.set_cons_succ, i64_w, i32_w]
      rfl
    refine pure_ (i := 25) (N := some 38) (v := ?_) (a' := ?_) #[true, true, true, true, true, true, true, true, true, true, true, true, true, true, true, true, true, true, true, true, true, true, true, true, true, true, false] rfl rfl (by kernel_rfl) (fun _ _ _ h => h) (Or.inl ⟨by rfl, ?_⟩) ?_ ?_
    rotate_left
    · intro w'
      go_simp
      with_reducible rfl
    rotate_left
    · simp only [Act.put, List.setIfInBounds_toArray, List.set_cons_zero, List.set_cons_succ, i64_w, i32_w]
      rfl
    refine pure_ (i := 26) (N := some 2) (v := ?_) (a' := ?_) #[true, true, true, true, true, true, true, true, true, true, true, true, true, true, true, true, true, true, true, true, true, true, true, true, true, true, true] rfl rfl (by kernel_rfl) (fun _ _ _ h => h) (Or.inl ⟨by rfl, ?_⟩) ?_ ?_
    rotate_left
    · intro w'
      go_simp
      with_reducible rfl
    rotate_left
    · simp only [Act.put, List.setIfInBounds_toArray, List.set_cons_zero, List.set_cons_succ, i64_w, i32_w]
      rfl
    refine done_ (by kernel_rfl) ?_
    go_wp2
    all_goals go_ret
    all_goals
      have hT := HLT.out
      have hg := HW.out.vgain
      refine ⟨congrArg (fun x => Ending.returned (.int .i64 x)) ?_, ?_⟩
      · first
          | (rw [vol3 _ (min v.vgain 32) _ hT.1 hT.2 (by omega) (by omega) (by decide) (by decide)]; rfl)
          | (rw [vol3 _ v.vgain _ hT.1 hT.2 hg.1 h (by decide) (by decide), show min v.vgain 32 = v.vgain by omega]; rfl)
          | (rw [vol3 _ 32 _ hT.1 hT.2 (by decide) (by decide) (by decide) (by decide), show min v.vgain 32 = 32 by omega]; rfl)
      · repeat (first | exact Below.refl _ _ | apply pw_below_drewN | apply below_alloc | apply below_drew1)
theorem rout_calls (base : Nat) (g : Nat) (v : V) (cy : Int) (W : World) (h : IsR base W g v cy) (hw : Wf v) :
    Calls Tryd.prog 67 #[.pointer (some ⟨g, 0, none⟩)] W fun e W' => e = .returned (.int .i64 (outV v)) ∧ Below W.heap.size W W' := by
  by_cases ho : on v
  · refine (rout_on base g v cy W h hw ho).mono ?_
    rintro e w ⟨rfl, n, rfl⟩
    exact ⟨rfl, pw_below_drewN (Below.refl _ _) n⟩
  · exact rout_off base g v cy W h hw ho
end Go.Proofs.YtaiaapjlpbhlbaaDoor.Wave
