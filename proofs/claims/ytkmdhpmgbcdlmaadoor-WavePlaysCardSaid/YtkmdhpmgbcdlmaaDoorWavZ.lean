/-
  THE REFERENCE's Clock: the slopes. By the prover of this repo.
-/
import Derived.Test.YtkmdhpmgbcdlmaaDoorWavY
namespace Go.Proofs.YtkmdhpmgbcdlmaaDoor.Wave
open Go.RowKit Go.Proofs.YtkmdhpmgbcdlmaaDoor.Pitch Go.Proofs.YtkmdhpmgbcdlmaaDoor.PWavePitches Go.Proofs.YtkmdhpmgbcdlmaaDoorW.PrintWords Go.Proofs.YtkmdhpmgbcdlmaaDoorW.PrintLast Go.Proofs.YtkmdhpmgbcdlmaaDoorW.PrintMore
set_option linter.unusedVariables false
set_option linter.unusedSimpArgs false
set_option maxRecDepth 20000 in
set_option maxHeartbeats 8000000 in
theorem rclock_calls (base : Nat) (g : Nat) (v : V) (cy : Int) (W : World) (h : IsR base W g v cy) (hv : Okv v) (hcy : 0 ≤ cy ∧ cy < 1000000000 ∧ cy % 16 = v.cycle) :
    Calls Tryd.prog 17 #[.pointer (some ⟨g, 0, none⟩)] W fun e W' => e = .returned (.tuple #[]) ∧ IsR base W' g (clockV v) (cy + 1) ∧ Turn base W W' (One g) := by
  have H := Aside0.mk h
  have HBS := Aside0.mk (show base ≤ W.heap.size by have := h.base; have := h.at_.lt; omega)
  have HV := Aside0.mk hv
  have HCY := Aside0.mk hcy
  have c3 : W.cell? ⟨g, 131, none⟩ = some (.int .i64 (rd v.reg 3)) := h.reg_ 3 (by decide)
  clear h hv hcy
  go_enter Tryd.func17, Tryd.ntmps17
  go_upto_if 8 with fail
  generalize hq : decide (rd v.reg 3 < 64) = q at *
  go_cut [] (fun wc => Aside0 (IsR base wc g (clk1 v) cy) ∧ Aside0 (Turn base W wc (One g)))
  case first =>
    as_aux_lemma =>
      cases q
      rotate_left
      · have h1 : rd v.reg 3 < 64 := of_decide_eq_true hq
        clear hq
        have hu : clk1 v = clkM (clkV v (rd v.reg 10)) (rd v.reg 10) := if_pos h1
        have hv := HV.out
        have r10 := hv.wf.reg 10
        have HC1 := Aside0.mk (fun (W1 : World) => show Calls Tryd.prog 29 #[.agg #[.int .i64 v.vreg, .int .i64 v.vgain, .int .i64 v.vn], .int .i64 (rd v.reg 10)] W1 fun e W' => e = .returned (.agg #[.int .i64 v.vreg, .int .i64 (clkS v.vreg v.vgain v.vn (rd v.reg 10)).1, .int .i64 (clkS v.vreg v.vgain v.vn (rd v.reg 10)).2]) ∧ Below W1.heap.size W1 W' from rslope_calls v.vreg v.vgain v.vn (rd v.reg 10) hv.wf.vreg hv.wf.vgain hv.vn r10 W1)
        have HC2 := Aside0.mk (fun (W1 : World) => show Calls Tryd.prog 29 #[.agg #[.int .i64 v.mreg, .int .i64 v.mgain, .int .i64 v.mn], .int .i64 (rd v.reg 10)] W1 fun e W' => e = .returned (.agg #[.int .i64 v.mreg, .int .i64 (clkS v.mreg v.mgain v.mn (rd v.reg 10)).1, .int .i64 (clkS v.mreg v.mgain v.mn (rd v.reg 10)).2]) ∧ Below W1.heap.size W1 W' from rslope_calls v.mreg v.mgain v.mn (rd v.reg 10) hv.wf.mreg hv.wf.mgain hv.mn r10 W1)
        have HU := Aside0.mk (show clk1 v = { v with vgain := (clkS v.vreg v.vgain v.vn (rd v.reg 10)).1, vn := (clkS v.vreg v.vgain v.vn (rd v.reg 10)).2, mgain := (clkS v.mreg v.mgain v.mn (rd v.reg 10)).1, mn := (clkS v.mreg v.mgain v.mn (rd v.reg 10)).2 } from hu.trans rfl)
        generalize hs1 : (clkS v.vreg v.vgain v.vn (rd v.reg 10)).1 = p1 at *
        generalize hs2 : (clkS v.vreg v.vgain v.vn (rd v.reg 10)).2 = p2 at *
        generalize hs3 : (clkS v.mreg v.mgain v.mn (rd v.reg 10)).1 = p3 at *
        generalize hs4 : (clkS v.mreg v.mgain v.mn (rd v.reg 10)).2 = p4 at *
        have H3 := Aside0.mk H.out.drew
        clear hv h1 r10 hu hs1 hs2 hs3 hs4
        go_wp2
        refine start_ (n := 28) (S := fun w' => w'.cell? ⟨g, 139, none⟩ = some (.int .i64 v.vreg) ∧ w'.cell? ⟨g, 140, none⟩ = some (.int .i64 v.vgain) ∧ w'.cell? ⟨g, 141, none⟩ = some (.int .i64 v.vn) ∧ w'.cell? ⟨g, 142, none⟩ = some (.int .i64 v.mreg) ∧ w'.cell? ⟨g, 143, none⟩ = some (.int .i64 v.mgain) ∧ w'.cell? ⟨g, 144, none⟩ = some (.int .i64 v.mn) ∧ w'.cell? ⟨g, 138, none⟩ = some (.int .i64 (rd v.reg 10))) (ds := [24, 27]) #[false, false, false, false, false, false, false, false, false, false, false, false, false, false, false, false, false, false, false, false, false, false, false, false, false, false, false, false] (by kernel_rfl) rfl rfl ⟨H3.out.tail_ 0, H3.out.tail_ 1, H3.out.tail_ 2, H3.out.tail_ 3, H3.out.tail_ 4, H3.out.tail_ 5, H3.out.reg_ 10 (by decide)⟩ (fun hHeld => ?_)
        refine pure_ (i := 0) (N := some 9) (v := ?_) (a' := ?_) #[true, false, false, false, false, false, false, false, false, false, false, false, false, false, false, false, false, false, false, false, false, false, false, false, false, false, false, false] rfl rfl (by kernel_rfl) (fun _ _ _ h => h) (Or.inl ⟨by rfl, ?_⟩) ?_ ?_
        rotate_left
        · intro w'
          go_simp
          with_reducible rfl
        rotate_left
        · simp only [Act.put, List.setIfInBounds_toArray, List.set_cons_zero, List.set_cons_succ, i64_w, i32_w]
          rfl
        refine pure_ (i := 1) (N := some 10) (v := ?_) (a' := ?_) #[true, true, false, false, false, false, false, false, false, false, false, false, false, false, false, false, false, false, false, false, false, false, false, false, false, false, false, false] rfl rfl (by kernel_rfl) (fun _ _ _ h => h) (Or.inl ⟨by rfl, ?_⟩) ?_ ?_
        rotate_left
        · intro w'
          go_simp
          with_reducible rfl
        rotate_left
        · simp only [Act.put, List.setIfInBounds_toArray, List.set_cons_zero, List.set_cons_succ, i64_w, i32_w]
          rfl
        refine pure_ (i := 2) (N := some 11) (v := ?_) (a' := ?_) #[true, true, true, false, false, false, false, false, false, false, false, false, false, false, false, false, false, false, false, false, false, false, false, false, false, false, false, false] rfl rfl (by kernel_rfl) (fun _ _ _ h => h) (Or.inl ⟨by rfl, ?_⟩) ?_ ?_
        rotate_left
        · intro w'
          go_simp
          with_reducible rfl
        rotate_left
        · simp only [Act.put, List.setIfInBounds_toArray, List.set_cons_zero, List.set_cons_succ, i64_w, i32_w]
          rfl
        refine pure_ (i := 3) (N := some 12) (v := ?_) (a' := ?_) #[true, true, true, true, false, false, false, false, false, false, false, false, false, false, false, false, false, false, false, false, false, false, false, false, false, false, false, false] rfl rfl (by kernel_rfl) (fun _ _ _ h => h) (Or.inl ⟨by rfl, ?_⟩) ?_ ?_
        rotate_left
        · intro w'
          go_simp
          with_reducible rfl
        rotate_left
        · simp only [Act.put, List.setIfInBounds_toArray, List.set_cons_zero, List.set_cons_succ, i64_w, i32_w]
          rfl
        refine pure_ (i := 4) (N := some 13) (v := ?_) (a' := ?_) #[true, true, true, true, true, false, false, false, false, false, false, false, false, false, false, false, false, false, false, false, false, false, false, false, false, false, false, false] rfl rfl (by kernel_rfl) (fun _ _ _ h => h) (Or.inl ⟨by rfl, ?_⟩) ?_ ?_
        rotate_left
        · intro w'
          go_simp
          with_reducible rfl
        rotate_left
        · simp only [Act.put, List.setIfInBounds_toArray, List.set_cons_zero, List.set_cons_succ, i64_w, i32_w]
          rfl
        refine pure_ (i := 6) (N := some 15) (v := ?_) (a' := ?_) #[true, true, true, true, true, false, true, false, false, false, false, false, false, false, false, false, false, false, false, false, false, false, false, false, false, false, false, false] rfl rfl (by kernel_rfl) (fun _ _ _ h => h) (Or.inl ⟨by rfl, ?_⟩) ?_ ?_
        rotate_left
        · intro w'
          go_simp
          with_reducible rfl
        rotate_left
        · simp only [Act.put, List.setIfInBounds_toArray, List.set_cons_zero, List.set_cons_succ, i64_w, i32_w]
          rfl
        refine pure_ (i := 7) (N := some 16) (v := ?_) (a' := ?_) #[true, true, true, true, true, false, true, true, false, false, false, false, false, false, false, false, false, false, false, false, false, false, false, false, false, false, false, false] rfl rfl (by kernel_rfl) (fun _ _ _ h => h) (Or.inl ⟨by rfl, ?_⟩) ?_ ?_
        rotate_left
        · intro w'
          go_simp
          with_reducible rfl
        rotate_left
        · simp only [Act.put, List.setIfInBounds_toArray, List.set_cons_zero, List.set_cons_succ, i64_w, i32_w]
          rfl
        refine pure_ (i := 8) (N := some 17) (v := ?_) (a' := ?_) #[true, true, true, true, true, false, true, true, true, false, false, false, false, false, false, false, false, false, false, false, false, false, false, false, false, false, false, false] rfl rfl (by kernel_rfl) (fun _ _ _ h => h) (Or.inl ⟨by rfl, ?_⟩) ?_ ?_
        rotate_left
        · intro w'
          go_simp
          with_reducible rfl
        rotate_left
        · simp only [Act.put, List.setIfInBounds_toArray, List.set_cons_zero, List.set_cons_succ, i64_w, i32_w]
          rfl
        refine pure_ (i := 9) (N := some 18) (v := ?_) (a' := ?_) #[true, true, true, true, true, false, true, true, true, true, false, false, false, false, false, false, false, false, false, false, false, false, false, false, false, false, false, false] rfl rfl (by kernel_rfl) (fun _ _ _ h => h) (Or.inl ⟨by rfl, ?_⟩) ?_ ?_
        rotate_left
        · intro w'
          go_simp
          with_reducible rfl
        rotate_left
        · simp only [Act.put, List.setIfInBounds_toArray, List.set_cons_zero, List.set_cons_succ, i64_w, i32_w]
          rfl
        refine pure_ (i := 12) (N := some 21) (v := ?_) (a' := ?_) #[true, true, true, true, true, false, true, true, true, true, false, false, true, false, false, false, false, false, false, false, false, false, false, false, false, false, false, false] rfl rfl (by kernel_rfl) (fun _ _ _ h => h) (Or.inl ⟨by rfl, ?_⟩) ?_ ?_
        rotate_left
        · intro w'
          go_simp
          with_reducible rfl
        rotate_left
        · simp only [Act.put, List.setIfInBounds_toArray, List.set_cons_zero, List.set_cons_succ, i64_w, i32_w]
          rfl
        refine pure_ (i := 13) (N := some 22) (v := ?_) (a' := ?_) #[true, true, true, true, true, false, true, true, true, true, false, false, true, true, false, false, false, false, false, false, false, false, false, false, false, false, false, false] rfl rfl (by kernel_rfl) (fun _ _ _ h => h) (Or.inl ⟨by rfl, ?_⟩) ?_ ?_
        rotate_left
        · intro w'
          go_simp
          with_reducible rfl
        rotate_left
        · simp only [Act.put, List.setIfInBounds_toArray, List.set_cons_zero, List.set_cons_succ, i64_w, i32_w]
          rfl
        refine pure_ (i := 14) (N := some 23) (v := ?_) (a' := ?_) #[true, true, true, true, true, false, true, true, true, true, false, false, true, true, true, false, false, false, false, false, false, false, false, false, false, false, false, false] rfl rfl (by kernel_rfl) (fun _ _ _ h => h) (Or.inl ⟨by rfl, ?_⟩) ?_ ?_
        rotate_left
        · intro w'
          go_simp
          with_reducible rfl
        rotate_left
        · simp only [Act.put, List.setIfInBounds_toArray, List.set_cons_zero, List.set_cons_succ, i64_w, i32_w]
          rfl
        refine pure_ (i := 16) (N := some 25) (v := ?_) (a' := ?_) #[true, true, true, true, true, false, true, true, true, true, false, false, true, true, true, false, true, false, false, false, false, false, false, false, false, false, false, false] rfl rfl (by kernel_rfl) (fun _ _ _ h => h) (Or.inl ⟨by rfl, ?_⟩) ?_ ?_
        rotate_left
        · intro w'
          go_simp
          with_reducible rfl
        rotate_left
        · simp only [Act.put, List.setIfInBounds_toArray, List.set_cons_zero, List.set_cons_succ, i64_w, i32_w]
          rfl
        refine pure_ (i := 17) (N := some 26) (v := ?_) (a' := ?_) #[true, true, true, true, true, false, true, true, true, true, false, false, true, true, true, false, true, true, false, false, false, false, false, false, false, false, false, false] rfl rfl (by kernel_rfl) (fun _ _ _ h => h) (Or.inl ⟨by rfl, ?_⟩) ?_ ?_
        rotate_left
        · intro w'
          go_simp
          with_reducible rfl
        rotate_left
        · simp only [Act.put, List.setIfInBounds_toArray, List.set_cons_zero, List.set_cons_succ, i64_w, i32_w]
          rfl
        refine pure_ (i := 18) (N := some 27) (v := ?_) (a' := ?_) #[true, true, true, true, true, false, true, true, true, true, false, false, true, true, true, false, true, true, true, false, false, false, false, false, false, false, false, false] rfl rfl (by kernel_rfl) (fun _ _ _ h => h) (Or.inl ⟨by rfl, ?_⟩) ?_ ?_
        rotate_left
        · intro w'
          go_simp
          with_reducible rfl
        rotate_left
        · simp only [Act.put, List.setIfInBounds_toArray, List.set_cons_zero, List.set_cons_succ, i64_w, i32_w]
          rfl
        refine pure_ (i := 19) (N := some 28) (v := ?_) (a' := ?_) #[true, true, true, true, true, false, true, true, true, true, false, false, true, true, true, false, true, true, true, true, false, false, false, false, false, false, false, false] rfl rfl (by kernel_rfl) (fun _ _ _ h => h) (Or.inl ⟨by rfl, ?_⟩) ?_ ?_
        rotate_left
        · intro w'
          go_simp
          with_reducible rfl
        rotate_left
        · simp only [Act.put, List.setIfInBounds_toArray, List.set_cons_zero, List.set_cons_succ, i64_w, i32_w]
          rfl
        refine take_ (i := 5) (N := some 14) (v := ?_) (a' := ?_) #[true, true, true, true, true, true, true, true, true, true, false, false, true, true, true, false, true, true, true, true, false, false, false, false, false, false, false, false] rfl rfl (by kernel_rfl) (fun _ _ _ h => h) (Or.inl ⟨by rfl, ?_⟩) hHeld ?_ ?_
        rotate_left
        · rintro w' ⟨s0, s1, s2, s3, s4, s5, s6⟩
          go_simp
          with_reducible rfl
        rotate_left
        · simp only [Act.put, List.setIfInBounds_toArray, List.set_cons_zero, List.set_cons_succ, i64_w, i32_w]
          rfl
        refine take_ (i := 10) (N := some 19) (v := ?_) (a' := ?_) #[true, true, true, true, true, true, true, true, true, true, true, false, true, true, true, false, true, true, true, true, false, false, false, false, false, false, false, false] rfl rfl (by kernel_rfl) (fun _ _ _ h => h) (Or.inl ⟨by rfl, ?_⟩) hHeld ?_ ?_
        rotate_left
        · rintro w' ⟨s0, s1, s2, s3, s4, s5, s6⟩
          go_simp
          with_reducible rfl
        rotate_left
        · simp only [Act.put, List.setIfInBounds_toArray, List.set_cons_zero, List.set_cons_succ, i64_w, i32_w]
          rfl
        refine take_ (i := 15) (N := some 24) (v := ?_) (a' := ?_) #[true, true, true, true, true, true, true, true, true, true, true, false, true, true, true, true, true, true, true, true, false, false, false, false, false, false, false, false] rfl rfl (by kernel_rfl) (fun _ _ _ h => h) (Or.inl ⟨by rfl, ?_⟩) hHeld ?_ ?_
        rotate_left
        · rintro w' ⟨s0, s1, s2, s3, s4, s5, s6⟩
          go_simp
          with_reducible rfl
        rotate_left
        · simp only [Act.put, List.setIfInBounds_toArray, List.set_cons_zero, List.set_cons_succ, i64_w, i32_w]
          rfl
        refine take_ (i := 20) (N := some 29) (v := ?_) (a' := ?_) #[true, true, true, true, true, true, true, true, true, true, true, false, true, true, true, true, true, true, true, true, true, false, false, false, false, false, false, false] rfl rfl (by kernel_rfl) (fun _ _ _ h => h) (Or.inl ⟨by rfl, ?_⟩) hHeld ?_ ?_
        rotate_left
        · rintro w' ⟨s0, s1, s2, s3, s4, s5, s6⟩
          go_simp
          with_reducible rfl
        rotate_left
        · simp only [Act.put, List.setIfInBounds_toArray, List.set_cons_zero, List.set_cons_succ, i64_w, i32_w]
          rfl
        refine one_ (i := 11) (N := some 20) #[true, true, true, true, true, true, true, true, true, true, true, true, true, true, true, true, true, true, true, true, true, false, false, false, false, false, false, false] rfl rfl (by kernel_rfl) (by decide) (fun K hK => ?_)
        refine goes_ Tryd.func29 (by kernel_rfl) rfl #[.agg #[.int .i64 v.vreg, .int .i64 v.vgain, .int .i64 v.vn], .int .i64 (rd v.reg 10)] (by rfl) rfl rfl (by simp only [List.map_toArray, List.map_cons, List.map_nil]; rfl) ?_
        with_reducible refine (HC1.out _).mono ?_
        rintro e w6 ⟨rfl, hb_⟩
        refine ⟨_, rfl, ?_⟩
        have HI6 := Aside0.mk (H3.out.below hb_); have HB6 := Aside0.mk hb_; clear hb_
        refine hK.out _ _ ⟨HI6.out.tail_ 0, HI6.out.tail_ 1, HI6.out.tail_ 2, HI6.out.tail_ 3, HI6.out.tail_ 4, HI6.out.tail_ 5, HI6.out.reg_ 10 (by decide)⟩ (fun hHeld => ?_)
        clear hK K
        refine norm_ (a' := ?_) ?_ ?_
        rotate_left
        · show Act.put _ (some 20) _ = _
          simp only [Act.put, List.setIfInBounds_toArray, List.set_cons_zero, List.set_cons_succ, i64_w, i32_w]
          rfl
        refine one_ (i := 21) (N := some 30) #[true, true, true, true, true, true, true, true, true, true, true, true, true, true, true, true, true, true, true, true, true, true, false, false, false, false, false, false] rfl rfl (by kernel_rfl) (by decide) (fun K hK => ?_)
        refine goes_ Tryd.func29 (by kernel_rfl) rfl #[.agg #[.int .i64 v.mreg, .int .i64 v.mgain, .int .i64 v.mn], .int .i64 (rd v.reg 10)] (by rfl) rfl rfl (by simp only [List.map_toArray, List.map_cons, List.map_nil]; rfl) ?_
        with_reducible refine (HC2.out _).mono ?_
        rintro e w7 ⟨rfl, hb_⟩
        refine ⟨_, rfl, ?_⟩
        have HI7 := Aside0.mk (HI6.out.below hb_); have HB7 := Aside0.mk hb_; clear hb_
        refine hK.out _ _ ⟨HI7.out.tail_ 0, HI7.out.tail_ 1, HI7.out.tail_ 2, HI7.out.tail_ 3, HI7.out.tail_ 4, HI7.out.tail_ 5, HI7.out.reg_ 10 (by decide)⟩ (fun hHeld => ?_)
        clear hK K
        refine norm_ (a' := ?_) ?_ ?_
        rotate_left
        · show Act.put _ (some 30) _ = _
          simp only [Act.put, List.setIfInBounds_toArray, List.set_cons_zero, List.set_cons_succ, i64_w, i32_w]
          rfl
        refine pure_ (i := 22) (N := some 31) (v := ?_) (a' := ?_) #[true, true, true, true, true, true, true, true, true, true, true, true, true, true, true, true, true, true, true, true, true, true, true, false, false, false, false, false] rfl rfl (by kernel_rfl) (fun _ _ _ h => h) (Or.inl ⟨by rfl, ?_⟩) ?_ ?_
        rotate_left
        · intro w'
          go_simp
          with_reducible rfl
        rotate_left
        · simp only [Act.put, List.setIfInBounds_toArray, List.set_cons_zero, List.set_cons_succ, i64_w, i32_w]
          rfl
        refine pure_ (i := 23) (N := some 32) (v := ?_) (a' := ?_) #[true, true, true, true, true, true, true, true, true, true, true, true, true, true, true, true, true, true, true, true, true, true, true, true, false, false, false, false] rfl rfl (by kernel_rfl) (fun _ _ _ h => h) (Or.inl ⟨by rfl, ?_⟩) ?_ ?_
        rotate_left
        · intro w'
          go_simp
          with_reducible rfl
        rotate_left
        · simp only [Act.put, List.setIfInBounds_toArray, List.set_cons_zero, List.set_cons_succ, i64_w, i32_w]
          rfl
        refine last_ (i := 24) (N := none) #[true, true, true, true, true, true, true, true, true, true, true, true, true, true, true, true, true, true, true, true, true, true, true, true, true, false, false, false] rfl rfl (by kernel_rfl) (by decide) (fun K hK => ?_)
        have f0 := HI7.out.frozen 139; have f1 := HI7.out.frozen 140; have f2 := HI7.out.frozen 141; have f3 := HI7.out.frozen 142; have f4 := HI7.out.frozen 143; have f5 := HI7.out.frozen 144; have x0 : w7.cell? ⟨g, 139, none⟩ = some (.int .i64 v.vreg) := HI7.out.tail_ 0; have x1 : w7.cell? ⟨g, 140, none⟩ = some (.int .i64 v.vgain) := HI7.out.tail_ 1; have x2 : w7.cell? ⟨g, 141, none⟩ = some (.int .i64 v.vn) := HI7.out.tail_ 2; have x3 : w7.cell? ⟨g, 142, none⟩ = some (.int .i64 v.mreg) := HI7.out.tail_ 3; have x4 : w7.cell? ⟨g, 143, none⟩ = some (.int .i64 v.mgain) := HI7.out.tail_ 4; have x5 : w7.cell? ⟨g, 144, none⟩ = some (.int .i64 v.mn) := HI7.out.tail_ 5; clear hHeld
        refine skip_ (w1 := ?_) (by rfl) rfl ?_ ?_
        rotate_left
        · go_simp
          rfl
        refine hK.out _ _ ?_
        clear hK K
        refine pure_ (i := 25) (N := some 33) (v := ?_) (a' := ?_) #[true, true, true, true, true, true, true, true, true, true, true, true, true, true, true, true, true, true, true, true, true, true, true, true, true, true, false, false] rfl rfl (by kernel_rfl) (fun _ _ _ h => h) (Or.inl ⟨by rfl, ?_⟩) ?_ ?_
        rotate_left
        · intro w'
          go_simp
          with_reducible rfl
        rotate_left
        · simp only [Act.put, List.setIfInBounds_toArray, List.set_cons_zero, List.set_cons_succ, i64_w, i32_w]
          rfl
        refine pure_ (i := 26) (N := some 34) (v := ?_) (a' := ?_) #[true, true, true, true, true, true, true, true, true, true, true, true, true, true, true, true, true, true, true, true, true, true, true, true, true, true, true, false] rfl rfl (by kernel_rfl) (fun _ _ _ h => h) (Or.inl ⟨by rfl, ?_⟩) ?_ ?_
        rotate_left
        · intro w'
          go_simp
          with_reducible rfl
        rotate_left
        · simp only [Act.put, List.setIfInBounds_toArray, List.set_cons_zero, List.set_cons_succ, i64_w, i32_w]
          rfl
        refine last_ (i := 27) (N := none) #[true, true, true, true, true, true, true, true, true, true, true, true, true, true, true, true, true, true, true, true, true, true, true, true, true, true, true, true] rfl rfl (by kernel_rfl) (by decide) (fun K hK => ?_)
        have HI8 := Aside0.mk (show IsR base (((w7.setCell ⟨g, 139, none⟩ (.int .i64 v.vreg)).setCell ⟨g, 140, none⟩ (.int .i64 p1)).setCell ⟨g, 141, none⟩ (.int .i64 p2)) g { v with vgain := p1, vn := p2 } cy from ((HI7.out.set_tail 0 (.int .i64 v.vreg) (v' := v) (cy' := cy) rfl rfl rfl rfl).set_tail 1 (.int .i64 p1) (v' := { v with vgain := p1 }) (cy' := cy) rfl rfl rfl rfl).set_tail 2 (.int .i64 p2) rfl rfl rfl rfl)
        have HT8 := Aside0.mk (show Turn base W (((w7.setCell ⟨g, 139, none⟩ (.int .i64 v.vreg)).setCell ⟨g, 140, none⟩ (.int .i64 p1)).setCell ⟨g, 141, none⟩ (.int .i64 p2)) (One g) from (((((Turn.refl base W (One g)).drew.trans (Turn.of_below HB6.out HBS.out)).trans (Turn.of_below HB7.out (Nat.le_trans HBS.out HB6.out.size))).set_ rfl HI7.out.base _).set_ rfl HI7.out.base _).set_ rfl HI7.out.base _)
        clear f0 f1 f2 f3 f4 f5 x0 x1 x2 x3 x4 x5 HI7 HB7 HI6 HB6 H3
        generalize (((w7.setCell ⟨g, 139, none⟩ (.int .i64 v.vreg)).setCell ⟨g, 140, none⟩ (.int .i64 p1)).setCell ⟨g, 141, none⟩ (.int .i64 p2)) = w8 at *
        have y3 : w8.cell? ⟨g, 142, none⟩ = some (.int .i64 v.mreg) := HI8.out.tail_ 3; have y4 : w8.cell? ⟨g, 143, none⟩ = some (.int .i64 v.mgain) := HI8.out.tail_ 4; have y5 : w8.cell? ⟨g, 144, none⟩ = some (.int .i64 v.mn) := HI8.out.tail_ 5; have g3 := HI8.out.frozen 142; have g4 := HI8.out.frozen 143; have g5 := HI8.out.frozen 144
        refine skip_ (w1 := ?_) (by rfl) rfl ?_ ?_
        rotate_left
        · go_simp
          rfl
        refine hK.out _ _ ?_
        clear hK K
        refine done_ (by kernel_rfl) ?_
        have HI9 := Aside0.mk (show IsR base (((w8.setCell ⟨g, 142, none⟩ (.int .i64 v.mreg)).setCell ⟨g, 143, none⟩ (.int .i64 p3)).setCell ⟨g, 144, none⟩ (.int .i64 p4)) g (clk1 v) cy from by rw [HU.out]; exact ((HI8.out.set_tail 3 (.int .i64 v.mreg) (v' := { v with vgain := p1, vn := p2 }) (cy' := cy) rfl rfl rfl rfl).set_tail 4 (.int .i64 p3) (v' := { v with vgain := p1, vn := p2, mgain := p3 }) (cy' := cy) rfl rfl rfl rfl).set_tail 5 (.int .i64 p4) rfl rfl rfl rfl)
        have HT9 := Aside0.mk (((HT8.out.set_ (i := 142) rfl HI8.out.base (.int .i64 v.mreg)).set_ (i := 143) rfl HI8.out.base (.int .i64 p3)).set_ (i := 144) rfl HI8.out.base (.int .i64 p4))
        clear y3 y4 y5 g3 g4 g5 HI8 HT8
        generalize (((w8.setCell ⟨g, 142, none⟩ (.int .i64 v.mreg)).setCell ⟨g, 143, none⟩ (.int .i64 p3)).setCell ⟨g, 144, none⟩ (.int .i64 p4)) = w9 at *
        go_wp2
        go_meet
        case rel => exact ⟨HI9, HT9⟩
      · have h1 : ¬ rd v.reg 3 < 64 := of_decide_eq_false hq
        clear hq
        have hu : clk1 v = v := if_neg h1
        go_wp2
        go_meet
        case rel => exact ⟨⟨by rw [hu]; exact H.out⟩, ⟨Turn.refl base W (One g)⟩⟩
  case rest =>
    obtain ⟨HI1, HT1⟩ := hcut
    have cc : wc.cell? ⟨g, 150, none⟩ = some (.int .i64 cy) := HI1.out.tail_ 11
    have fc := HI1.out.frozen 150
    have HU := Aside0.mk (cycV_ok (clk1_ok HV.out))
    have hcy := HCY.out
    have w5 : wrap64 (cy + 1) = cy + 1 := wr64 (by omega) (by omega)
    have m5 : (cy + 1).tmod 16 = (cy + 1) % 16 := Int.tmod_eq_emod_of_nonneg (by omega)
    have ec : (cycV (clk1 v)).cycle = (cy + 1) % 16 := by show ((clk1 v).cycle + 1) % 16 = _; rw [clk1_cycle]; omega
    have HI2 := Aside0.mk (HI1.out.set_tail 11 (.int .i64 (cy + 1)) (v' := cycV (clk1 v)) (cy' := cy + 1) rfl rfl rfl rfl)
    have HT2 := Aside0.mk (HT1.out.set_ (i := 150) rfl HI1.out.base (.int .i64 (cy + 1)))
    have c5 : (wc.setCell ⟨g, 150, none⟩ (.int .i64 (cy + 1))).cell? ⟨g, 150, none⟩ = some (.int .i64 (cy + 1)) := HI2.out.tail_ 11
    clear hcy
    by_cases h5 : 0 < (cy + 1) % 16
    · have ECK := Aside0.mk (show clockV v = cycV (clk1 v) from if_pos (by rw [ec]; exact h5))
      have d5 : decide (0 < (cy + 1) % 16) = true := decide_eq_true h5
      clear h5 ec
      go_wp2
      first | go_end0 | ((try simp only [Exit.inBlock, Exit.then]); refine bodyPost_ret (results_none rfl _ _ _) rfl ?_)
      exact ⟨rfl, by rw [ECK.out]; exact HI2.out, HT2.out⟩
    have ECK := Aside0.mk (show clockV v = tickV (stepV (cycV (clk1 v))) from if_neg (by rw [ec]; exact h5))
    have d5 : decide (0 < (cy + 1) % 16) = false := decide_eq_false h5
    clear h5 ec
    generalize hu : cycV (clk1 v) = u at *
    have c7 : (wc.setCell ⟨g, 150, none⟩ (.int .i64 (cy + 1))).cell? ⟨g, 135, none⟩ = some (.int .i64 (rd u.reg 7)) := HI2.out.reg_ 7 (by decide)
    clear hu HV
    go_upto_if 53 with fail
    clear cc fc c5 w5 m5 d5 HI1 HT1
    generalize (wc.setCell ⟨g, 150, none⟩ (.int .i64 (cy + 1))) = w2 at *
    generalize hq7 : decide (rd u.reg 7 < 128) = q7 at *
    go_cut [] (fun wc => Aside0 (IsR base wc g (stepV u) (cy + 1)) ∧ Aside0 (Turn base W wc (One g)))
    case first =>
      have r7 := HU.out.wf.reg 7
      have r6 := HU.out.wf.reg 6
      have hb := HU.out.brest
      have ht := tw_range HU.out 7 6
      obtain ⟨r70, r71⟩ := r7
      obtain ⟨r60, r61⟩ := r6
      cases q7
      rotate_left
      · have h7 : rd u.reg 7 < 128 := of_decide_eq_true hq7
        clear hq7
        have m7 : (rd u.reg 7).tmod 16 = rd u.reg 7 % 16 := Int.tmod_eq_emod_of_nonneg r70
        have w71 : wrap64 (rd u.reg 7 % 16 * 256) = rd u.reg 7 % 16 * 256 := wr64 (by omega) (by omega)
        have w72 : wrap64 (rd u.reg 7 % 16 * 256 + rd u.reg 6) = tw u 7 6 := wr64 (by omega) (by omega)
        have HSV := Aside0.mk (show stepV u = if u.brest + tw u 7 6 < 65536 then addB u (tw u 7 6) else turned (addB u (tw u 7 6)) (rd u.turns u.bat) from if_neg (by omega))
        have HAB := Aside0.mk (show addB u (tw u 7 6) = if u.brest + tw u 7 6 < 65536 then { u with brest := u.brest + tw u 7 6 } else { u with brest := u.brest + tw u 7 6 - 65536, bat := (u.bat + 1) % 64 } from rfl)
        have w73 : wrap64 (u.brest + tw u 7 6) = u.brest + tw u 7 6 := wr64 (by omega) (by omega)
        have f8 := HI2.out.drew.frozen 148
        have x8 : w2.drew.cell? ⟨g, 148, none⟩ = some (.int .i64 u.brest) := HI2.out.drew.tail_ 9
        clear h7 r70 r71 r60 r61
        generalize addB u (tw u 7 6) = ab at *
        generalize tw u 7 6 = tt at *
        go_wp2
        refine start_ (n := 21) (S := fun w' => w'.cell? ⟨g, 148, none⟩ = some (.int .i64 u.brest) ∧ w'.cell? ⟨g, 135, none⟩ = some (.int .i64 (rd u.reg 7)) ∧ w'.cell? ⟨g, 134, none⟩ = some (.int .i64 (rd u.reg 6))) (ds := [20]) #[false, false, false, false, false, false, false, false, false, false, false, false, false, false, false, false, false, false, false, false, false] (by kernel_rfl) rfl rfl ⟨x8, HI2.out.drew.reg_ 7 (by decide), HI2.out.drew.reg_ 6 (by decide)⟩ (fun hHeld => ?_)
        refine pure_ (i := 0) (N := some 54) (v := ?_) (a' := ?_) #[true, false, false, false, false, false, false, false, false, false, false, false, false, false, false, false, false, false, false, false, false] rfl rfl (by kernel_rfl) (fun _ _ _ h => h) (Or.inl ⟨by rfl, ?_⟩) ?_ ?_
        rotate_left
        · intro w'
          go_simp
          with_reducible rfl
        rotate_left
        · simp only [Act.put, List.setIfInBounds_toArray, List.set_cons_zero, List.set_cons_succ, i64_w, i32_w]
          rfl
        refine pure_ (i := 1) (N := some 55) (v := ?_) (a' := ?_) #[true, true, false, false, false, false, false, false, false, false, false, false, false, false, false, false, false, false, false, false, false] rfl rfl (by kernel_rfl) (fun _ _ _ h => h) (Or.inl ⟨by rfl, ?_⟩) ?_ ?_
        rotate_left
        · intro w'
          go_simp
          with_reducible rfl
        rotate_left
        · simp only [Act.put, List.setIfInBounds_toArray, List.set_cons_zero, List.set_cons_succ, i64_w, i32_w]
          rfl
        refine pure_ (i := 2) (N := some 56) (v := ?_) (a' := ?_) #[true, true, true, false, false, false, false, false, false, false, false, false, false, false, false, false, false, false, false, false, false] rfl rfl (by kernel_rfl) (fun _ _ _ h => h) (Or.inl ⟨by rfl, ?_⟩) ?_ ?_
        rotate_left
        · intro w'
          go_simp
          with_reducible rfl
        rotate_left
        · simp only [Act.put, List.setIfInBounds_toArray, List.set_cons_zero, List.set_cons_succ, i64_w, i32_w]
          rfl
        refine pure_ (i := 4) (N := some 58) (v := ?_) (a' := ?_) #[true, true, true, false, true, false, false, false, false, false, false, false, false, false, false, false, false, false, false, false, false] rfl rfl (by kernel_rfl) (fun _ _ _ h => h) (Or.inl ⟨by rfl, ?_⟩) ?_ ?_
        rotate_left
        · intro w'
          go_simp
          with_reducible rfl
        rotate_left
        · simp only [Act.put, List.setIfInBounds_toArray, List.set_cons_zero, List.set_cons_succ, i64_w, i32_w]
          rfl
        refine pure_ (i := 5) (N := some 59) (v := ?_) (a' := ?_) #[true, true, true, false, true, true, false, false, false, false, false, false, false, false, false, false, false, false, false, false, false] rfl rfl (by kernel_rfl) (fun _ _ _ h => h) (Or.inl ⟨by rfl, ?_⟩) ?_ ?_
        rotate_left
        · intro w'
          go_simp
          with_reducible rfl
        rotate_left
        · simp only [Act.put, List.setIfInBounds_toArray, List.set_cons_zero, List.set_cons_succ, i64_w, i32_w]
          rfl
        refine pure_ (i := 6) (N := some 60) (v := ?_) (a' := ?_) #[true, true, true, false, true, true, true, false, false, false, false, false, false, false, false, false, false, false, false, false, false] rfl rfl (by kernel_rfl) (fun _ _ _ h => h) (Or.inl ⟨by rfl, ?_⟩) ?_ ?_
        rotate_left
        · intro w'
          go_simp
          with_reducible rfl
        rotate_left
        · simp only [Act.put, List.setIfInBounds_toArray, List.set_cons_zero, List.set_cons_succ, i64_w, i32_w]
          rfl
        refine pure_ (i := 7) (N := some 61) (v := ?_) (a' := ?_) #[true, true, true, false, true, true, true, true, false, false, false, false, false, false, false, false, false, false, false, false, false] rfl rfl (by kernel_rfl) (fun _ _ _ h => h) (Or.inl ⟨by rfl, ?_⟩) ?_ ?_
        rotate_left
        · intro w'
          go_simp
          with_reducible rfl
        rotate_left
        · simp only [Act.put, List.setIfInBounds_toArray, List.set_cons_zero, List.set_cons_succ, i64_w, i32_w]
          rfl
        refine pure_ (i := 11) (N := some 65) (v := ?_) (a' := ?_) #[true, true, true, false, true, true, true, true, false, false, false, true, false, false, false, false, false, false, false, false, false] rfl rfl (by kernel_rfl) (fun _ _ _ h => h) (Or.inl ⟨by rfl, ?_⟩) ?_ ?_
        rotate_left
        · intro w'
          go_simp
          with_reducible rfl
        rotate_left
        · simp only [Act.put, List.setIfInBounds_toArray, List.set_cons_zero, List.set_cons_succ, i64_w, i32_w]
          rfl
        refine pure_ (i := 12) (N := some 66) (v := ?_) (a' := ?_) #[true, true, true, false, true, true, true, true, false, false, false, true, true, false, false, false, false, false, false, false, false] rfl rfl (by kernel_rfl) (fun _ _ _ h => h) (Or.inl ⟨by rfl, ?_⟩) ?_ ?_
        rotate_left
        · intro w'
          go_simp
          with_reducible rfl
        rotate_left
        · simp only [Act.put, List.setIfInBounds_toArray, List.set_cons_zero, List.set_cons_succ, i64_w, i32_w]
          rfl
        refine pure_ (i := 13) (N := some 67) (v := ?_) (a' := ?_) #[true, true, true, false, true, true, true, true, false, false, false, true, true, true, false, false, false, false, false, false, false] rfl rfl (by kernel_rfl) (fun _ _ _ h => h) (Or.inl ⟨by rfl, ?_⟩) ?_ ?_
        rotate_left
        · intro w'
          go_simp
          with_reducible rfl
        rotate_left
        · simp only [Act.put, List.setIfInBounds_toArray, List.set_cons_zero, List.set_cons_succ, i64_w, i32_w]
          rfl
        refine pure_ (i := 14) (N := some 68) (v := ?_) (a' := ?_) #[true, true, true, false, true, true, true, true, false, false, false, true, true, true, true, false, false, false, false, false, false] rfl rfl (by kernel_rfl) (fun _ _ _ h => h) (Or.inl ⟨by rfl, ?_⟩) ?_ ?_
        rotate_left
        · intro w'
          go_simp
          with_reducible rfl
        rotate_left
        · simp only [Act.put, List.setIfInBounds_toArray, List.set_cons_zero, List.set_cons_succ, i64_w, i32_w]
          rfl
        refine take_ (i := 3) (N := some 57) (v := ?_) (a' := ?_) #[true, true, true, true, true, true, true, true, false, false, false, true, true, true, true, false, false, false, false, false, false] rfl rfl (by kernel_rfl) (fun _ _ _ h => h) (Or.inl ⟨by rfl, ?_⟩) hHeld ?_ ?_
        rotate_left
        · rintro w' ⟨s0, s1, s2⟩
          go_simp
          with_reducible rfl
        rotate_left
        · simp only [Act.put, List.setIfInBounds_toArray, List.set_cons_zero, List.set_cons_succ, i64_w, i32_w]
          rfl
        refine take_ (i := 8) (N := some 62) (v := ?_) (a' := ?_) #[true, true, true, true, true, true, true, true, true, false, false, true, true, true, true, false, false, false, false, false, false] rfl rfl (by kernel_rfl) (fun _ _ _ h => h) (Or.inl ⟨by rfl, ?_⟩) hHeld ?_ ?_
        rotate_left
        · rintro w' ⟨s0, s1, s2⟩
          go_simp
          with_reducible rfl
        rotate_left
        · simp only [Act.put, List.setIfInBounds_toArray, List.set_cons_zero, List.set_cons_succ, i64_w, i32_w]
          rfl
        refine pure_ (i := 9) (N := some 63) (v := ?_) (a' := ?_) #[true, true, true, true, true, true, true, true, true, true, false, true, true, true, true, false, false, false, false, false, false] rfl rfl (by kernel_rfl) (fun _ _ _ h => h) (Or.inl ⟨by rfl, ?_⟩) ?_ ?_
        rotate_left
        · intro w'
          go_simp
          with_reducible rfl
        rotate_left
        · simp only [Act.put, List.setIfInBounds_toArray, List.set_cons_zero, List.set_cons_succ, i64_w, i32_w]
          rfl
        refine pure_ (i := 10) (N := some 64) (v := ?_) (a' := ?_) #[true, true, true, true, true, true, true, true, true, true, true, true, true, true, true, false, false, false, false, false, false] rfl rfl (by kernel_rfl) (fun _ _ _ h => h) (Or.inl ⟨by rfl, ?_⟩) ?_ ?_
        rotate_left
        · intro w'
          go_simp
          with_reducible rfl
        rotate_left
        · simp only [Act.put, List.setIfInBounds_toArray, List.set_cons_zero, List.set_cons_succ, i64_w, i32_w]
          rfl
        refine take_ (i := 15) (N := some 69) (v := ?_) (a' := ?_) #[true, true, true, true, true, true, true, true, true, true, true, true, true, true, true, true, false, false, false, false, false] rfl rfl (by kernel_rfl) (fun _ _ _ h => h) (Or.inl ⟨by rfl, ?_⟩) hHeld ?_ ?_
        rotate_left
        · rintro w' ⟨s0, s1, s2⟩
          go_simp
          with_reducible rfl
        rotate_left
        · simp only [Act.put, List.setIfInBounds_toArray, List.set_cons_zero, List.set_cons_succ, i64_w, i32_w]
          rfl
        refine pure_ (i := 16) (N := some 70) (v := ?_) (a' := ?_) #[true, true, true, true, true, true, true, true, true, true, true, true, true, true, true, true, true, false, false, false, false] rfl rfl (by kernel_rfl) (fun _ _ _ h => h) (Or.inl ⟨by rfl, ?_⟩) ?_ ?_
        rotate_left
        · intro w'
          go_simp
          with_reducible rfl
        rotate_left
        · simp only [Act.put, List.setIfInBounds_toArray, List.set_cons_zero, List.set_cons_succ, i64_w, i32_w]
          rfl
        refine pure_ (i := 17) (N := some 71) (v := ?_) (a' := ?_) #[true, true, true, true, true, true, true, true, true, true, true, true, true, true, true, true, true, true, false, false, false] rfl rfl (by kernel_rfl) (fun _ _ _ h => h) (Or.inl ⟨by rfl, ?_⟩) ?_ ?_
        rotate_left
        · intro w'
          go_simp
          with_reducible rfl
        rotate_left
        · simp only [Act.put, List.setIfInBounds_toArray, List.set_cons_zero, List.set_cons_succ, i64_w, i32_w]
          rfl
        refine pure_ (i := 18) (N := some 72) (v := ?_) (a' := ?_) #[true, true, true, true, true, true, true, true, true, true, true, true, true, true, true, true, true, true, true, false, false] rfl rfl (by kernel_rfl) (fun _ _ _ h => h) (Or.inl ⟨by rfl, ?_⟩) ?_ ?_
        rotate_left
        · intro w'
          go_simp
          with_reducible rfl
        rotate_left
        · simp only [Act.put, List.setIfInBounds_toArray, List.set_cons_zero, List.set_cons_succ, i64_w, i32_w]
          rfl
        refine pure_ (i := 19) (N := some 73) (v := ?_) (a' := ?_) #[true, true, true, true, true, true, true, true, true, true, true, true, true, true, true, true, true, true, true, true, false] rfl rfl (by kernel_rfl) (fun _ _ _ h => h) (Or.inl ⟨by rfl, ?_⟩) ?_ ?_
        rotate_left
        · intro w'
          go_simp
          with_reducible rfl
        rotate_left
        · simp only [Act.put, List.setIfInBounds_toArray, List.set_cons_zero, List.set_cons_succ, i64_w, i32_w]
          rfl
        refine last_ (i := 20) (N := none) #[true, true, true, true, true, true, true, true, true, true, true, true, true, true, true, true, true, true, true, true, true] rfl rfl (by kernel_rfl) (by decide) (fun K hK => ?_)
        clear hHeld
        refine skip_ (w1 := ?_) (by rfl) rfl ?_ ?_
        rotate_left
        · go_simp
          rfl
        refine hK.out _ _ ?_
        clear hK K
        refine done_ (by kernel_rfl) ?_
        have HI3 := Aside0.mk (HI2.out.set_tail 9 (.int .i64 (u.brest + tt)) (v' := { u with brest := u.brest + tt }) (cy' := cy + 1) rfl rfl rfl rfl).drew
        have HT3 := Aside0.mk (HT2.out.set_ (i := 148) rfl HI2.out.base (.int .i64 (u.brest + tt))).drew
        have c8 : (w2.setCell ⟨g, 148, none⟩ (.int .i64 (u.brest + tt))).drew.cell? ⟨g, 148, none⟩ = some (.int .i64 (u.brest + tt)) := HI3.out.tail_ 9
        have f8 := HI3.out.frozen 148
        clear x8 w71 w72 w73 m7 c7
        generalize (w2.setCell ⟨g, 148, none⟩ (.int .i64 (u.brest + tt))).drew = w3 at *
        by_cases h8 : u.brest + tt < 65536
        · have d8 : decide (65535 < u.brest + tt) = false := decide_eq_false (by omega)
          have e8 : stepV u = { u with brest := u.brest + tt } := by rw [HSV.out, if_pos h8, HAB.out, if_pos h8]
          clear h8 hb ht
          go_wp2
          go_meet
          case rel => exact ⟨⟨by rw [e8]; exact HI3.out⟩, HT3⟩
        · have d8 : decide (65535 < u.brest + tt) = true := decide_eq_true (by omega)
          have e8 : stepV u = turned ab (rd u.turns u.bat) := by rw [HSV.out, if_neg h8]
          have e9 : ab = { u with brest := u.brest + tt - 65536, bat := (u.bat + 1) % 64 } := by rw [HAB.out, if_neg h8]
          have w8 : wrap64 (u.brest + tt - 65536) = u.brest + tt - 65536 := wr64 (by omega) (by omega)
          have HQ := Aside0.mk (And.intro e8 e9)
          clear h8 hb ht e8 e9 HSV HAB
          go_wp2
          have HI4 := Aside0.mk (HI3.out.set_tail 9 (.int .i64 (u.brest + tt - 65536)) (v' := { u with brest := u.brest + tt - 65536 }) (cy' := cy + 1) rfl rfl rfl rfl)
          have HT4 := Aside0.mk (HT3.out.set_ (i := 148) rfl HI3.out.base (.int .i64 (u.brest + tt - 65536)))
          clear c8 f8 w8
          generalize w3.setCell ⟨g, 148, none⟩ (.int .i64 (u.brest + tt - 65536)) = w4 at *
          have q0 := eq_true HU.out.wf.bat.1
          have q1 := eq_true HU.out.wf.bat.2
          refine start_ (n := 10) (S := fun w' => w'.cell? ⟨g, 149, none⟩ = some (.int .i64 u.bat) ∧ w'.cell? ⟨g, 64 + u.bat.toNat, none⟩ = some (.int .i64 (rd u.turns u.bat))) (ds := []) #[false, false, false, false, false, false, false, false, false, false] (by kernel_rfl) rfl rfl ⟨HI4.out.drew.tail_ 10, HI4.out.drew.turns_ _ HU.out.wf.bat.1 HU.out.wf.bat.2⟩ (fun hHeld => ?_)
          refine pure_ (i := 0) (N := some 86) (v := ?_) (a' := ?_) #[true, false, false, false, false, false, false, false, false, false] rfl rfl (by kernel_rfl) (fun _ _ _ h => h) (Or.inl ⟨by rfl, ?_⟩) ?_ ?_
          rotate_left
          · intro w'
            go_simp
            with_reducible rfl
          rotate_left
          · simp only [Act.put, List.setIfInBounds_toArray, List.set_cons_zero, List.set_cons_succ, i64_w, i32_w]
            rfl
          refine pure_ (i := 1) (N := some 87) (v := ?_) (a' := ?_) #[true, true, false, false, false, false, false, false, false, false] rfl rfl (by kernel_rfl) (fun _ _ _ h => h) (Or.inl ⟨by rfl, ?_⟩) ?_ ?_
          rotate_left
          · intro w'
            go_simp
            with_reducible rfl
          rotate_left
          · simp only [Act.put, List.setIfInBounds_toArray, List.set_cons_zero, List.set_cons_succ, i64_w, i32_w]
            rfl
          refine pure_ (i := 2) (N := some 88) (v := ?_) (a' := ?_) #[true, true, true, false, false, false, false, false, false, false] rfl rfl (by kernel_rfl) (fun _ _ _ h => h) (Or.inl ⟨by rfl, ?_⟩) ?_ ?_
          rotate_left
          · intro w'
            go_simp
            with_reducible rfl
          rotate_left
          · simp only [Act.put, List.setIfInBounds_toArray, List.set_cons_zero, List.set_cons_succ, i64_w, i32_w]
            rfl
          refine pure_ (i := 3) (N := some 89) (v := ?_) (a' := ?_) #[true, true, true, true, false, false, false, false, false, false] rfl rfl (by kernel_rfl) (fun _ _ _ h => h) (Or.inl ⟨by rfl, ?_⟩) ?_ ?_
          rotate_left
          · intro w'
            go_simp
            with_reducible rfl
          rotate_left
          · simp only [Act.put, List.setIfInBounds_toArray, List.set_cons_zero, List.set_cons_succ, i64_w, i32_w]
            rfl
          refine pure_ (i := 5) (N := some 91) (v := ?_) (a' := ?_) #[true, true, true, true, false, true, false, false, false, false] rfl rfl (by kernel_rfl) (fun _ _ _ h => h) (Or.inl ⟨by rfl, ?_⟩) ?_ ?_
          rotate_left
          · intro w'
            go_simp
            with_reducible rfl
          rotate_left
          · simp only [Act.put, List.setIfInBounds_toArray, List.set_cons_zero, List.set_cons_succ, i64_w, i32_w]
            rfl
          refine pure_ (i := 6) (N := some 92) (v := ?_) (a' := ?_) #[true, true, true, true, false, true, true, false, false, false] rfl rfl (by kernel_rfl) (fun _ _ _ h => h) (Or.inl ⟨by rfl, ?_⟩) ?_ ?_
          rotate_left
          · intro w'
            go_simp
            with_reducible rfl
          rotate_left
          · simp only [Act.put, List.setIfInBounds_toArray, List.set_cons_zero, List.set_cons_succ, i64_w, i32_w]
            rfl
          refine take_ (i := 4) (N := some 90) (v := ?_) (a' := ?_) #[true, true, true, true, true, true, true, false, false, false] rfl rfl (by kernel_rfl) (fun _ _ _ h => h) (Or.inl ⟨by rfl, ?_⟩) hHeld ?_ ?_
          rotate_left
          · rintro w' ⟨s0, s1⟩
            go_simp
            with_reducible rfl
          rotate_left
          · simp only [Act.put, List.setIfInBounds_toArray, List.set_cons_zero, List.set_cons_succ, i64_w, i32_w]
            rfl
          refine pure_ (i := 7) (N := some 93) (v := ?_) (a' := ?_) #[true, true, true, true, true, true, true, true, false, false] rfl rfl (by kernel_rfl) (fun _ _ _ h => h) (Or.inl ⟨by rfl, ?_⟩) ?_ ?_
          rotate_left
          · intro w'
            go_simp
            with_reducible rfl
          rotate_left
          · simp only [Act.put, List.setIfInBounds_toArray, List.set_cons_zero, List.set_cons_succ, i64_w, i32_w]
            rfl
          refine take_ (i := 8) (N := some 94) (v := ?_) (a' := ?_) #[true, true, true, true, true, true, true, true, true, false] rfl rfl (by kernel_rfl) (fun _ _ _ h => h) (Or.inl ⟨by rfl, ?_⟩) hHeld ?_ ?_
          rotate_left
          · rintro w' ⟨s0, s1⟩
            go_simp
            with_reducible rfl
          rotate_left
          · simp only [Act.put, List.setIfInBounds_toArray, List.set_cons_zero, List.set_cons_succ, i64_w, i32_w]
            rfl
          refine pure_ (i := 9) (N := some 2) (v := ?_) (a' := ?_) #[true, true, true, true, true, true, true, true, true, true] rfl rfl (by kernel_rfl) (fun _ _ _ h => h) (Or.inl ⟨by rfl, ?_⟩) ?_ ?_
          rotate_left
          · intro w'
            go_simp
            with_reducible rfl
          rotate_left
          · simp only [Act.put, List.setIfInBounds_toArray, List.set_cons_zero, List.set_cons_succ, i64_w, i32_w]
            rfl
          refine done_ (by kernel_rfl) ?_
          have HI5 := Aside0.mk (show IsR base (w4.setCell ⟨g, 149, none⟩ (.int .i64 ((u.bat + 1) % 64))).drew g ab (cy + 1) from by rw [HQ.out.2]; exact (HI4.out.set_tail 10 (.int .i64 ((u.bat + 1) % 64)) (v' := { u with brest := u.brest + tt - 65536, bat := (u.bat + 1) % 64 }) (cy' := cy + 1) rfl rfl rfl rfl).drew)
          have HT5 := Aside0.mk (HT4.out.set_ (i := 149) rfl HI4.out.base (.int .i64 ((u.bat + 1) % 64))).drew
          have x9 : w4.drew.cell? ⟨g, 149, none⟩ = some (.int .i64 u.bat) := HI4.out.drew.tail_ 10
          have f9 := HI4.out.drew.frozen 149
          have wb := HU.out.wf.bat
          have w9 : wrap64 (u.bat + 1) = u.bat + 1 := wr64 (by omega) (by omega)
          have m9 : (u.bat + 1).tmod 64 = (u.bat + 1) % 64 := Int.tmod_eq_emod_of_nonneg (by omega)
          have htn := HU.out.wf.turns u.bat
          have hcn : -64 ≤ ab.counter ∧ ab.counter < 64 := by rw [HQ.out.2]; exact HU.out.counter
          have HE := Aside0.mk HQ.out.1
          clear wb q0 q1 HQ HI3 HT3
          generalize rd u.turns u.bat = t at *
          go_upto_if 105 with fail
          clear x9 f9 w9 m9 HI4 HT4
          generalize (w4.setCell ⟨g, 149, none⟩ (.int .i64 ((u.bat + 1) % 64))).drew = w5 at *
          have f5 := HI5.out.frozen 145
          have x5 : w5.cell? ⟨g, 145, none⟩ = some (.int .i64 ab.counter) := HI5.out.tail_ 6
          by_cases h4 : t = 4
          · subst h4
            have e4 : turned ab 4 = { ab with counter := 0 } := rfl
            have HI6 := Aside0.mk (show IsR base (w5.setCell ⟨g, 145, none⟩ (.int .i64 0)) g (stepV u) (cy + 1) from by rw [HE.out, e4]; exact HI5.out.set_tail 6 (.int .i64 0) rfl rfl rfl rfl)
            have HT6 := Aside0.mk (HT5.out.set_ (i := 145) rfl HI5.out.base (.int .i64 0))
            clear hcn htn
            go_wp2
            go_meet
            case rel => exact ⟨HI6, HT6⟩
          · have d4 : (t == 4) = false := by simpa using h4
            have hnt : ∀ h : t.toNat < [Value.int .i64 0, .int .i64 1, .int .i64 2, .int .i64 4, .int .i64 0, .int .i64 (-4), .int .i64 (-2), .int .i64 (-1)].length, [Value.int .i64 0, .int .i64 1, .int .i64 2, .int .i64 4, .int .i64 0, .int .i64 (-4), .int .i64 (-2), .int .i64 (-1)][t.toNat]'h = .int .i64 (rd TL t) := by
              obtain ⟨t0, t1⟩ := htn
              have : t = 0 ∨ t = 1 ∨ t = 2 ∨ t = 3 ∨ t = 4 ∨ t = 5 ∨ t = 6 ∨ t = 7 := by omega
              rcases this with rfl | rfl | rfl | rfl | rfl | rfl | rfl | rfl <;> exact fun _ => rfl
            have hk : -4 ≤ rd TL t ∧ rd TL t ≤ 4 := by
              obtain ⟨t0, t1⟩ := htn
              have : t = 0 ∨ t = 1 ∨ t = 2 ∨ t = 3 ∨ t = 4 ∨ t = 5 ∨ t = 6 ∨ t = 7 := by omega
              rcases this with rfl | rfl | rfl | rfl | rfl | rfl | rfl | rfl <;> decide
            have et : turned ab t = { ab with counter := (ab.counter + rd TL t + 64) % 128 - 64 } := by unfold turned; rw [if_neg h4]
            rw [et] at HE
            have q0 := eq_true htn.1
            have q1 := eq_true htn.2
            have wk : wrap64 (ab.counter + rd TL t) = ab.counter + rd TL t := wr64 (by omega) (by omega)
            generalize rd TL t = k at *
            have HI5d := Aside0.mk HI5.out.drew
            have HIB := Aside0.mk (HI5.out.below (below_alloc (Below.refl _ _) (.cells #[.int .i64 0, .int .i64 1, .int .i64 2, .int .i64 4, .int .i64 0, .int .i64 (-4), .int .i64 (-2), .int .i64 (-1)] 3))).drew
            have HTB := Aside0.mk (HT5.out.trans (Turn.of_below (S := One g) (below_alloc (Below.refl _ _) (.cells #[.int .i64 0, .int .i64 1, .int .i64 2, .int .i64 4, .int .i64 0, .int .i64 (-4), .int .i64 (-2), .int .i64 (-1)] 3)) (Nat.le_trans HBS.out HT5.out.below.size))).drew
            have f6 := HIB.out.frozen 145
            have x6 : (w5.alloc (.cells #[.int .i64 0, .int .i64 1, .int .i64 2, .int .i64 4, .int .i64 0, .int .i64 (-4), .int .i64 (-2), .int .i64 (-1)] 3)).drew.cell? ⟨g, 145, none⟩ = some (.int .i64 ab.counter) := HIB.out.tail_ 6
            clear et h4
            go_wp2
            refine start_ (n := 12) (S := fun w' => w'.cell? ⟨g, 145, none⟩ = some (.int .i64 ab.counter)) (ds := [11]) #[false, false, false, false, false, false, false, false, false, false, false, false] (by kernel_rfl) rfl rfl (HI5d.out.tail_ 6) (fun hHeld => ?_)
            refine pure_ (i := 0) (N := some 109) (v := ?_) (a' := ?_) #[true, false, false, false, false, false, false, false, false, false, false, false] rfl rfl (by kernel_rfl) (fun _ _ _ h => h) (Or.inl ⟨by rfl, ?_⟩) ?_ ?_
            rotate_left
            · intro w'
              go_simp
              with_reducible rfl
            rotate_left
            · simp only [Act.put, List.setIfInBounds_toArray, List.set_cons_zero, List.set_cons_succ, i64_w, i32_w]
              rfl
            refine pure_ (i := 1) (N := some 110) (v := ?_) (a' := ?_) #[true, true, false, false, false, false, false, false, false, false, false, false] rfl rfl (by kernel_rfl) (fun _ _ _ h => h) (Or.inl ⟨by rfl, ?_⟩) ?_ ?_
            rotate_left
            · intro w'
              go_simp
              with_reducible rfl
            rotate_left
            · simp only [Act.put, List.setIfInBounds_toArray, List.set_cons_zero, List.set_cons_succ, i64_w, i32_w]
              rfl
            refine pure_ (i := 2) (N := some 111) (v := ?_) (a' := ?_) #[true, true, true, false, false, false, false, false, false, false, false, false] rfl rfl (by kernel_rfl) (fun _ _ _ h => h) (Or.inl ⟨by rfl, ?_⟩) ?_ ?_
            rotate_left
            · intro w'
              go_simp
              with_reducible rfl
            rotate_left
            · simp only [Act.put, List.setIfInBounds_toArray, List.set_cons_zero, List.set_cons_succ, i64_w, i32_w]
              rfl
            refine pure_ (i := 5) (N := some 114) (v := ?_) (a' := ?_) #[true, true, true, false, false, true, false, false, false, false, false, false] rfl rfl (by kernel_rfl) (fun _ _ _ h => h) (Or.inl ⟨by rfl, ?_⟩) ?_ ?_
            rotate_left
            · intro w'
              go_simp
              with_reducible rfl
            rotate_left
            · simp only [Act.put, List.setIfInBounds_toArray, List.set_cons_zero, List.set_cons_succ, i64_w, i32_w]
              rfl
            refine take_ (i := 3) (N := some 112) (v := ?_) (a' := ?_) #[true, true, true, true, false, true, false, false, false, false, false, false] rfl rfl (by kernel_rfl) (fun _ _ _ h => h) (Or.inl ⟨by rfl, ?_⟩) hHeld ?_ ?_
            rotate_left
            · intro w' s0
              go_simp
              with_reducible rfl
            rotate_left
            · simp only [Act.put, List.setIfInBounds_toArray, List.set_cons_zero, List.set_cons_succ, i64_w, i32_w]
              rfl
            refine one_ (i := 4) (N := some 113) #[true, true, true, true, true, true, false, false, false, false, false, false] rfl rfl (by kernel_rfl) (by decide) (fun K hK => ?_)
            refine value_ (w1 := ?_) (v := ?_) (by rfl) rfl ?_ ?_
            rotate_left 2
            · go_simp
              constructor
              · rfl
              · rfl
            refine hK.out _ _ (HIB.out.tail_ 6) (fun hHeld => ?_)
            clear hK K
            refine norm_ (a' := ?_) ?_ ?_
            rotate_left
            · show Act.put _ (some 113) _ = _
              simp only [Act.put, List.setIfInBounds_toArray, List.set_cons_zero, List.set_cons_succ, i64_w, i32_w]
              rfl
            refine pure_ (i := 6) (N := some 115) (v := ?_) (a' := ?_) #[true, true, true, true, true, true, true, false, false, false, false, false] rfl rfl (by kernel_rfl) (fun _ _ _ h => h) (Or.inl ⟨by rfl, ?_⟩) ?_ ?_
            rotate_left
            · intro w'
              go_simp
              with_reducible rfl
            rotate_left
            · simp only [Act.put, List.setIfInBounds_toArray, List.set_cons_zero, List.set_cons_succ, i64_w, i32_w]
              rfl
            refine one_ (i := 7) (N := some 116) #[true, true, true, true, true, true, true, true, false, false, false, false] rfl rfl (by kernel_rfl) (by decide) (fun K hK => ?_)
            refine value_ (w1 := ?_) (v := ?_) (by rfl) rfl ?_ ?_
            rotate_left 2
            · go_simp
              constructor
              · rfl
              · rfl
            refine hK.out _ _ (HIB.out.tail_ 6) (fun hHeld => ?_)
            clear hK K
            refine norm_ (a' := ?_) ?_ ?_
            rotate_left
            · show Act.put _ (some 116) _ = _
              simp only [Act.put, List.setIfInBounds_toArray, List.set_cons_zero, List.set_cons_succ, i64_w, i32_w]
              rfl
            refine pure_ (i := 8) (N := some 117) (v := ?_) (a' := ?_) #[true, true, true, true, true, true, true, true, true, false, false, false] rfl rfl (by kernel_rfl) (fun _ _ _ h => h) (Or.inl ⟨by rfl, ?_⟩) ?_ ?_
            rotate_left
            · intro w'
              go_simp
              with_reducible rfl
            rotate_left
            · simp only [Act.put, List.setIfInBounds_toArray, List.set_cons_zero, List.set_cons_succ, i64_w, i32_w]
              rfl
            refine pure_ (i := 9) (N := some 118) (v := ?_) (a' := ?_) #[true, true, true, true, true, true, true, true, true, true, false, false] rfl rfl (by kernel_rfl) (fun _ _ _ h => h) (Or.inl ⟨by rfl, ?_⟩) ?_ ?_
            rotate_left
            · intro w'
              go_simp
              with_reducible rfl
            rotate_left
            · simp only [Act.put, List.setIfInBounds_toArray, List.set_cons_zero, List.set_cons_succ, i64_w, i32_w]
              rfl
            refine pure_ (i := 10) (N := some 119) (v := ?_) (a' := ?_) #[true, true, true, true, true, true, true, true, true, true, true, false] rfl rfl (by kernel_rfl) (fun _ _ _ h => h) (Or.inl ⟨by rfl, ?_⟩) ?_ ?_
            rotate_left
            · intro w'
              go_simp
              with_reducible rfl
            rotate_left
            · simp only [Act.put, List.setIfInBounds_toArray, List.set_cons_zero, List.set_cons_succ, i64_w, i32_w]
              rfl
            refine last_ (i := 11) (N := none) #[true, true, true, true, true, true, true, true, true, true, true, true] rfl rfl (by kernel_rfl) (by decide) (fun K hK => ?_)
            refine skip_ (w1 := ?_) (by rfl) rfl ?_ ?_
            rotate_left
            · go_simp
              rfl
            refine hK.out _ _ ?_
            clear hK K
            refine done_ (by kernel_rfl) ?_
            have HI6 := Aside0.mk ((HI5.out.below (below_alloc (Below.refl _ _) (.cells #[.int .i64 0, .int .i64 1, .int .i64 2, .int .i64 4, .int .i64 0, .int .i64 (-4), .int .i64 (-2), .int .i64 (-1)] 3))).set_tail 6 (.int .i64 (ab.counter + k)) (v' := { ab with counter := ab.counter + k }) (cy' := cy + 1) rfl rfl rfl rfl).drew
            have HT6 := Aside0.mk ((HT5.out.trans (Turn.of_below (S := One g) (below_alloc (Below.refl _ _) (.cells #[.int .i64 0, .int .i64 1, .int .i64 2, .int .i64 4, .int .i64 0, .int .i64 (-4), .int .i64 (-2), .int .i64 (-1)] 3)) (Nat.le_trans HBS.out HT5.out.below.size))).set_ (i := 145) rfl HI5.out.base (.int .i64 (ab.counter + k))).drew
            clear hnt f6 x6 x5 f5 HIB HTB wk q0 q1 d4 htn HI5 HT5 HI5d
            generalize ((w5.alloc (.cells #[.int .i64 0, .int .i64 1, .int .i64 2, .int .i64 4, .int .i64 0, .int .i64 (-4), .int .i64 (-2), .int .i64 (-1)] 3)).setCell ⟨g, 145, none⟩ (.int .i64 (ab.counter + k))).drew = w6 at *
            have x6 : w6.cell? ⟨g, 145, none⟩ = some (.int .i64 (ab.counter + k)) := HI6.out.tail_ 6
            have f6 := HI6.out.frozen 145
            by_cases g1 : 63 < ab.counter + k
            · have d1 : decide (63 < ab.counter + k) = true := decide_eq_true g1
              have d2 : decide (ab.counter + k - 128 < -64) = false := decide_eq_false (by omega)
              have w1 : wrap64 (ab.counter + k - 128) = ab.counter + k - 128 := wr64 (by omega) (by omega)
              have e7 : (ab.counter + k + 64) % 128 - 64 = ab.counter + k - 128 := by omega
              have HI7 := Aside0.mk (HI6.out.set_tail 6 (.int .i64 (ab.counter + k - 128)) (v' := { ab with counter := ab.counter + k - 128 }) (cy' := cy + 1) rfl rfl rfl rfl)
              have HT7 := Aside0.mk (HT6.out.set_ (i := 145) rfl HI6.out.base (.int .i64 (ab.counter + k - 128)))
              have x7 : (w6.setCell ⟨g, 145, none⟩ (.int .i64 (ab.counter + k - 128))).cell? ⟨g, 145, none⟩ = some (.int .i64 (ab.counter + k - 128)) := HI7.out.tail_ 6
              clear hcn hk g1
              go_wp2
              go_meet
              case rel => exact ⟨⟨by rw [HE.out, e7]; exact HI7.out⟩, HT7⟩
            have d1 : decide (63 < ab.counter + k) = false := decide_eq_false g1
            by_cases g2 : ab.counter + k < -64
            · have d2 : decide (ab.counter + k < -64) = true := decide_eq_true g2
              have w1 : wrap64 (ab.counter + k + 128) = ab.counter + k + 128 := wr64 (by omega) (by omega)
              have e7 : (ab.counter + k + 64) % 128 - 64 = ab.counter + k + 128 := by omega
              have HI7 := Aside0.mk (HI6.out.set_tail 6 (.int .i64 (ab.counter + k + 128)) (v' := { ab with counter := ab.counter + k + 128 }) (cy' := cy + 1) rfl rfl rfl rfl)
              have HT7 := Aside0.mk (HT6.out.set_ (i := 145) rfl HI6.out.base (.int .i64 (ab.counter + k + 128)))
              clear hcn hk g1 g2
              go_wp2
              go_meet
              case rel => exact ⟨⟨by rw [HE.out, e7]; exact HI7.out⟩, HT7⟩
            · have d2 : decide (ab.counter + k < -64) = false := decide_eq_false g2
              have e7 : (ab.counter + k + 64) % 128 - 64 = ab.counter + k := by omega
              clear hcn hk g1 g2
              go_wp2
              go_meet
              case rel => exact ⟨⟨by rw [HE.out, e7]; exact HI6.out⟩, HT6⟩
      · have h7 : ¬ rd u.reg 7 < 128 := of_decide_eq_false hq7
        clear hq7
        have HSV := Aside0.mk (show stepV u = u from if_pos (by omega))
        clear r70 r71 r60 r61 hb ht
        go_wp2
        go_meet
        case rel => exact ⟨⟨by rw [HSV.out]; exact HI2.out⟩, HT2⟩
    case rest =>
      obtain ⟨HI3, HT3⟩ := hcut
      have HV3 := Aside0.mk (stepV_ok HU.out)
      clear HI2 HT2 c7 hq7 HU
      generalize stepV u = s at *
      have c7 : wc.cell? ⟨g, 131, none⟩ = some (.int .i64 (rd s.reg 3)) := HI3.out.reg_ 3 (by decide)
      by_cases h7 : rd s.reg 3 < 128
      · have d7 : decide (rd s.reg 3 < 128) = true := decide_eq_true h7
        have r3 := HV3.out.wf.reg 3
        have r2 := HV3.out.wf.reg 2
        obtain ⟨r30, r31⟩ := r3
        obtain ⟨r20, r21⟩ := r2
        have ETK := Aside0.mk (show tickV s = if s.wrest + ans (tw s 3 2) s.counter s.mgain < 65536 then { s with wrest := s.wrest + ans (tw s 3 2) s.counter s.mgain } else { s with wrest := s.wrest + ans (tw s 3 2) s.counter s.mgain - 65536, wat := (s.wat + 1) % 64 } from if_neg (by omega))
        have m3 : (rd s.reg 3).tmod 16 = rd s.reg 3 % 16 := Int.tmod_eq_emod_of_nonneg r30
        have w31 : wrap64 (rd s.reg 3 % 16 * 256) = rd s.reg 3 % 16 * 256 := wr64 (by omega) (by omega)
        have w32 : wrap64 (rd s.reg 3 % 16 * 256 + rd s.reg 2) = tw s 3 2 := wr64 (by omega) (by omega)
        have HPI := Aside0.mk (fun (W1 : World) => show Calls Tryd.prog 15 #[.int .i64 (wrap64 (rd s.reg 3 % 16 * 256 + rd s.reg 2)), .int .i64 s.counter, .int .i64 s.mgain] W1 fun e W' => e = .returned (.int .i64 (ans (tw s 3 2) s.counter s.mgain)) ∧ Drawn0 W1 W' from by rw [w32]; exact kotatsuref13_Pitch.calls 6 (tw s 3 2) s.counter s.mgain _ W1 (ref_eq 0 _ _ _))
        have hr := ans_range (tw s 3 2) s.counter s.mgain
        have hw := HV3.out.wrest
        have w33 : wrap64 (s.wrest + ans (tw s 3 2) s.counter s.mgain) = s.wrest + ans (tw s 3 2) s.counter s.mgain := wr64 (by omega) (by omega)
        clear h7 r30 r31 r20 r21
        generalize ans (tw s 3 2) s.counter s.mgain = an at *
        generalize tw s 3 2 = tt at *
        have HWA := Aside0.mk hw
        have HRA := Aside0.mk hr
        clear hw hr
        go_wp2
        refine start_ (n := 31) (S := fun w' => w'.cell? ⟨g, 146, none⟩ = some (.int .i64 s.wrest) ∧ w'.cell? ⟨g, 131, none⟩ = some (.int .i64 (rd s.reg 3)) ∧ w'.cell? ⟨g, 130, none⟩ = some (.int .i64 (rd s.reg 2)) ∧ w'.cell? ⟨g, 145, none⟩ = some (.int .i64 s.counter) ∧ w'.cell? ⟨g, 143, none⟩ = some (.int .i64 s.mgain)) (ds := [30]) #[false, false, false, false, false, false, false, false, false, false, false, false, false, false, false, false, false, false, false, false, false, false, false, false, false, false, false, false, false, false, false] (by kernel_rfl) rfl rfl ⟨HI3.out.drew.tail_ 7, HI3.out.drew.reg_ 3 (by decide), HI3.out.drew.reg_ 2 (by decide), HI3.out.drew.tail_ 6, HI3.out.drew.tail_ 4⟩ (fun hHeld => ?_)
        refine pure_ (i := 0) (N := some 150) (v := ?_) (a' := ?_) #[true, false, false, false, false, false, false, false, false, false, false, false, false, false, false, false, false, false, false, false, false, false, false, false, false, false, false, false, false, false, false] rfl rfl (by kernel_rfl) (fun _ _ _ h => h) (Or.inl ⟨by rfl, ?_⟩) ?_ ?_
        rotate_left
        · intro w'
          go_simp
          with_reducible rfl
        rotate_left
        · simp only [Act.put, List.setIfInBounds_toArray, List.set_cons_zero, List.set_cons_succ, i64_w, i32_w]
          rfl
        refine pure_ (i := 1) (N := some 151) (v := ?_) (a' := ?_) #[true, true, false, false, false, false, false, false, false, false, false, false, false, false, false, false, false, false, false, false, false, false, false, false, false, false, false, false, false, false, false] rfl rfl (by kernel_rfl) (fun _ _ _ h => h) (Or.inl ⟨by rfl, ?_⟩) ?_ ?_
        rotate_left
        · intro w'
          go_simp
          with_reducible rfl
        rotate_left
        · simp only [Act.put, List.setIfInBounds_toArray, List.set_cons_zero, List.set_cons_succ, i64_w, i32_w]
          rfl
        refine pure_ (i := 2) (N := some 152) (v := ?_) (a' := ?_) #[true, true, true, false, false, false, false, false, false, false, false, false, false, false, false, false, false, false, false, false, false, false, false, false, false, false, false, false, false, false, false] rfl rfl (by kernel_rfl) (fun _ _ _ h => h) (Or.inl ⟨by rfl, ?_⟩) ?_ ?_
        rotate_left
        · intro w'
          go_simp
          with_reducible rfl
        rotate_left
        · simp only [Act.put, List.setIfInBounds_toArray, List.set_cons_zero, List.set_cons_succ, i64_w, i32_w]
          rfl
        refine pure_ (i := 4) (N := some 154) (v := ?_) (a' := ?_) #[true, true, true, false, true, false, false, false, false, false, false, false, false, false, false, false, false, false, false, false, false, false, false, false, false, false, false, false, false, false, false] rfl rfl (by kernel_rfl) (fun _ _ _ h => h) (Or.inl ⟨by rfl, ?_⟩) ?_ ?_
        rotate_left
        · intro w'
          go_simp
          with_reducible rfl
        rotate_left
        · simp only [Act.put, List.setIfInBounds_toArray, List.set_cons_zero, List.set_cons_succ, i64_w, i32_w]
          rfl
        refine pure_ (i := 5) (N := some 155) (v := ?_) (a' := ?_) #[true, true, true, false, true, true, false, false, false, false, false, false, false, false, false, false, false, false, false, false, false, false, false, false, false, false, false, false, false, false, false] rfl rfl (by kernel_rfl) (fun _ _ _ h => h) (Or.inl ⟨by rfl, ?_⟩) ?_ ?_
        rotate_left
        · intro w'
          go_simp
          with_reducible rfl
        rotate_left
        · simp only [Act.put, List.setIfInBounds_toArray, List.set_cons_zero, List.set_cons_succ, i64_w, i32_w]
          rfl
        refine pure_ (i := 6) (N := some 156) (v := ?_) (a' := ?_) #[true, true, true, false, true, true, true, false, false, false, false, false, false, false, false, false, false, false, false, false, false, false, false, false, false, false, false, false, false, false, false] rfl rfl (by kernel_rfl) (fun _ _ _ h => h) (Or.inl ⟨by rfl, ?_⟩) ?_ ?_
        rotate_left
        · intro w'
          go_simp
          with_reducible rfl
        rotate_left
        · simp only [Act.put, List.setIfInBounds_toArray, List.set_cons_zero, List.set_cons_succ, i64_w, i32_w]
          rfl
        refine pure_ (i := 7) (N := some 157) (v := ?_) (a' := ?_) #[true, true, true, false, true, true, true, true, false, false, false, false, false, false, false, false, false, false, false, false, false, false, false, false, false, false, false, false, false, false, false] rfl rfl (by kernel_rfl) (fun _ _ _ h => h) (Or.inl ⟨by rfl, ?_⟩) ?_ ?_
        rotate_left
        · intro w'
          go_simp
          with_reducible rfl
        rotate_left
        · simp only [Act.put, List.setIfInBounds_toArray, List.set_cons_zero, List.set_cons_succ, i64_w, i32_w]
          rfl
        refine pure_ (i := 11) (N := some 161) (v := ?_) (a' := ?_) #[true, true, true, false, true, true, true, true, false, false, false, true, false, false, false, false, false, false, false, false, false, false, false, false, false, false, false, false, false, false, false] rfl rfl (by kernel_rfl) (fun _ _ _ h => h) (Or.inl ⟨by rfl, ?_⟩) ?_ ?_
        rotate_left
        · intro w'
          go_simp
          with_reducible rfl
        rotate_left
        · simp only [Act.put, List.setIfInBounds_toArray, List.set_cons_zero, List.set_cons_succ, i64_w, i32_w]
          rfl
        refine pure_ (i := 12) (N := some 162) (v := ?_) (a' := ?_) #[true, true, true, false, true, true, true, true, false, false, false, true, true, false, false, false, false, false, false, false, false, false, false, false, false, false, false, false, false, false, false] rfl rfl (by kernel_rfl) (fun _ _ _ h => h) (Or.inl ⟨by rfl, ?_⟩) ?_ ?_
        rotate_left
        · intro w'
          go_simp
          with_reducible rfl
        rotate_left
        · simp only [Act.put, List.setIfInBounds_toArray, List.set_cons_zero, List.set_cons_succ, i64_w, i32_w]
          rfl
        refine pure_ (i := 13) (N := some 163) (v := ?_) (a' := ?_) #[true, true, true, false, true, true, true, true, false, false, false, true, true, true, false, false, false, false, false, false, false, false, false, false, false, false, false, false, false, false, false] rfl rfl (by kernel_rfl) (fun _ _ _ h => h) (Or.inl ⟨by rfl, ?_⟩) ?_ ?_
        rotate_left
        · intro w'
          go_simp
          with_reducible rfl
        rotate_left
        · simp only [Act.put, List.setIfInBounds_toArray, List.set_cons_zero, List.set_cons_succ, i64_w, i32_w]
          rfl
        refine pure_ (i := 14) (N := some 164) (v := ?_) (a' := ?_) #[true, true, true, false, true, true, true, true, false, false, false, true, true, true, true, false, false, false, false, false, false, false, false, false, false, false, false, false, false, false, false] rfl rfl (by kernel_rfl) (fun _ _ _ h => h) (Or.inl ⟨by rfl, ?_⟩) ?_ ?_
        rotate_left
        · intro w'
          go_simp
          with_reducible rfl
        rotate_left
        · simp only [Act.put, List.setIfInBounds_toArray, List.set_cons_zero, List.set_cons_succ, i64_w, i32_w]
          rfl
        refine pure_ (i := 17) (N := some 167) (v := ?_) (a' := ?_) #[true, true, true, false, true, true, true, true, false, false, false, true, true, true, true, false, false, true, false, false, false, false, false, false, false, false, false, false, false, false, false] rfl rfl (by kernel_rfl) (fun _ _ _ h => h) (Or.inl ⟨by rfl, ?_⟩) ?_ ?_
        rotate_left
        · intro w'
          go_simp
          with_reducible rfl
        rotate_left
        · simp only [Act.put, List.setIfInBounds_toArray, List.set_cons_zero, List.set_cons_succ, i64_w, i32_w]
          rfl
        refine pure_ (i := 18) (N := some 168) (v := ?_) (a' := ?_) #[true, true, true, false, true, true, true, true, false, false, false, true, true, true, true, false, false, true, true, false, false, false, false, false, false, false, false, false, false, false, false] rfl rfl (by kernel_rfl) (fun _ _ _ h => h) (Or.inl ⟨by rfl, ?_⟩) ?_ ?_
        rotate_left
        · intro w'
          go_simp
          with_reducible rfl
        rotate_left
        · simp only [Act.put, List.setIfInBounds_toArray, List.set_cons_zero, List.set_cons_succ, i64_w, i32_w]
          rfl
        refine pure_ (i := 19) (N := some 169) (v := ?_) (a' := ?_) #[true, true, true, false, true, true, true, true, false, false, false, true, true, true, true, false, false, true, true, true, false, false, false, false, false, false, false, false, false, false, false] rfl rfl (by kernel_rfl) (fun _ _ _ h => h) (Or.inl ⟨by rfl, ?_⟩) ?_ ?_
        rotate_left
        · intro w'
          go_simp
          with_reducible rfl
        rotate_left
        · simp only [Act.put, List.setIfInBounds_toArray, List.set_cons_zero, List.set_cons_succ, i64_w, i32_w]
          rfl
        refine pure_ (i := 21) (N := some 171) (v := ?_) (a' := ?_) #[true, true, true, false, true, true, true, true, false, false, false, true, true, true, true, false, false, true, true, true, false, true, false, false, false, false, false, false, false, false, false] rfl rfl (by kernel_rfl) (fun _ _ _ h => h) (Or.inl ⟨by rfl, ?_⟩) ?_ ?_
        rotate_left
        · intro w'
          go_simp
          with_reducible rfl
        rotate_left
        · simp only [Act.put, List.setIfInBounds_toArray, List.set_cons_zero, List.set_cons_succ, i64_w, i32_w]
          rfl
        refine pure_ (i := 22) (N := some 172) (v := ?_) (a' := ?_) #[true, true, true, false, true, true, true, true, false, false, false, true, true, true, true, false, false, true, true, true, false, true, true, false, false, false, false, false, false, false, false] rfl rfl (by kernel_rfl) (fun _ _ _ h => h) (Or.inl ⟨by rfl, ?_⟩) ?_ ?_
        rotate_left
        · intro w'
          go_simp
          with_reducible rfl
        rotate_left
        · simp only [Act.put, List.setIfInBounds_toArray, List.set_cons_zero, List.set_cons_succ, i64_w, i32_w]
          rfl
        refine pure_ (i := 23) (N := some 173) (v := ?_) (a' := ?_) #[true, true, true, false, true, true, true, true, false, false, false, true, true, true, true, false, false, true, true, true, false, true, true, true, false, false, false, false, false, false, false] rfl rfl (by kernel_rfl) (fun _ _ _ h => h) (Or.inl ⟨by rfl, ?_⟩) ?_ ?_
        rotate_left
        · intro w'
          go_simp
          with_reducible rfl
        rotate_left
        · simp only [Act.put, List.setIfInBounds_toArray, List.set_cons_zero, List.set_cons_succ, i64_w, i32_w]
          rfl
        refine pure_ (i := 24) (N := some 174) (v := ?_) (a' := ?_) #[true, true, true, false, true, true, true, true, false, false, false, true, true, true, true, false, false, true, true, true, false, true, true, true, true, false, false, false, false, false, false] rfl rfl (by kernel_rfl) (fun _ _ _ h => h) (Or.inl ⟨by rfl, ?_⟩) ?_ ?_
        rotate_left
        · intro w'
          go_simp
          with_reducible rfl
        rotate_left
        · simp only [Act.put, List.setIfInBounds_toArray, List.set_cons_zero, List.set_cons_succ, i64_w, i32_w]
          rfl
        refine take_ (i := 3) (N := some 153) (v := ?_) (a' := ?_) #[true, true, true, true, true, true, true, true, false, false, false, true, true, true, true, false, false, true, true, true, false, true, true, true, true, false, false, false, false, false, false] rfl rfl (by kernel_rfl) (fun _ _ _ h => h) (Or.inl ⟨by rfl, ?_⟩) hHeld ?_ ?_
        rotate_left
        · rintro w' ⟨s0, s1, s2, s3, s4⟩
          go_simp
          with_reducible rfl
        rotate_left
        · simp only [Act.put, List.setIfInBounds_toArray, List.set_cons_zero, List.set_cons_succ, i64_w, i32_w]
          rfl
        refine take_ (i := 8) (N := some 158) (v := ?_) (a' := ?_) #[true, true, true, true, true, true, true, true, true, false, false, true, true, true, true, false, false, true, true, true, false, true, true, true, true, false, false, false, false, false, false] rfl rfl (by kernel_rfl) (fun _ _ _ h => h) (Or.inl ⟨by rfl, ?_⟩) hHeld ?_ ?_
        rotate_left
        · rintro w' ⟨s0, s1, s2, s3, s4⟩
          go_simp
          with_reducible rfl
        rotate_left
        · simp only [Act.put, List.setIfInBounds_toArray, List.set_cons_zero, List.set_cons_succ, i64_w, i32_w]
          rfl
        refine pure_ (i := 9) (N := some 159) (v := ?_) (a' := ?_) #[true, true, true, true, true, true, true, true, true, true, false, true, true, true, true, false, false, true, true, true, false, true, true, true, true, false, false, false, false, false, false] rfl rfl (by kernel_rfl) (fun _ _ _ h => h) (Or.inl ⟨by rfl, ?_⟩) ?_ ?_
        rotate_left
        · intro w'
          go_simp
          with_reducible rfl
        rotate_left
        · simp only [Act.put, List.setIfInBounds_toArray, List.set_cons_zero, List.set_cons_succ, i64_w, i32_w]
          rfl
        refine pure_ (i := 10) (N := some 160) (v := ?_) (a' := ?_) #[true, true, true, true, true, true, true, true, true, true, true, true, true, true, true, false, false, true, true, true, false, true, true, true, true, false, false, false, false, false, false] rfl rfl (by kernel_rfl) (fun _ _ _ h => h) (Or.inl ⟨by rfl, ?_⟩) ?_ ?_
        rotate_left
        · intro w'
          go_simp
          with_reducible rfl
        rotate_left
        · simp only [Act.put, List.setIfInBounds_toArray, List.set_cons_zero, List.set_cons_succ, i64_w, i32_w]
          rfl
        refine take_ (i := 15) (N := some 165) (v := ?_) (a' := ?_) #[true, true, true, true, true, true, true, true, true, true, true, true, true, true, true, true, false, true, true, true, false, true, true, true, true, false, false, false, false, false, false] rfl rfl (by kernel_rfl) (fun _ _ _ h => h) (Or.inl ⟨by rfl, ?_⟩) hHeld ?_ ?_
        rotate_left
        · rintro w' ⟨s0, s1, s2, s3, s4⟩
          go_simp
          with_reducible rfl
        rotate_left
        · simp only [Act.put, List.setIfInBounds_toArray, List.set_cons_zero, List.set_cons_succ, i64_w, i32_w]
          rfl
        refine pure_ (i := 16) (N := some 166) (v := ?_) (a' := ?_) #[true, true, true, true, true, true, true, true, true, true, true, true, true, true, true, true, true, true, true, true, false, true, true, true, true, false, false, false, false, false, false] rfl rfl (by kernel_rfl) (fun _ _ _ h => h) (Or.inl ⟨by rfl, ?_⟩) ?_ ?_
        rotate_left
        · intro w'
          go_simp
          with_reducible rfl
        rotate_left
        · simp only [Act.put, List.setIfInBounds_toArray, List.set_cons_zero, List.set_cons_succ, i64_w, i32_w]
          rfl
        refine take_ (i := 20) (N := some 170) (v := ?_) (a' := ?_) #[true, true, true, true, true, true, true, true, true, true, true, true, true, true, true, true, true, true, true, true, true, true, true, true, true, false, false, false, false, false, false] rfl rfl (by kernel_rfl) (fun _ _ _ h => h) (Or.inl ⟨by rfl, ?_⟩) hHeld ?_ ?_
        rotate_left
        · rintro w' ⟨s0, s1, s2, s3, s4⟩
          go_simp
          with_reducible rfl
        rotate_left
        · simp only [Act.put, List.setIfInBounds_toArray, List.set_cons_zero, List.set_cons_succ, i64_w, i32_w]
          rfl
        refine take_ (i := 25) (N := some 175) (v := ?_) (a' := ?_) #[true, true, true, true, true, true, true, true, true, true, true, true, true, true, true, true, true, true, true, true, true, true, true, true, true, true, false, false, false, false, false] rfl rfl (by kernel_rfl) (fun _ _ _ h => h) (Or.inl ⟨by rfl, ?_⟩) hHeld ?_ ?_
        rotate_left
        · rintro w' ⟨s0, s1, s2, s3, s4⟩
          go_simp
          with_reducible rfl
        rotate_left
        · simp only [Act.put, List.setIfInBounds_toArray, List.set_cons_zero, List.set_cons_succ, i64_w, i32_w]
          rfl
        refine one_ (i := 26) (N := some 176) #[true, true, true, true, true, true, true, true, true, true, true, true, true, true, true, true, true, true, true, true, true, true, true, true, true, true, true, false, false, false, false] rfl rfl (by kernel_rfl) (by decide) (fun K hK => ?_)
        refine goes_ Tryd.func15 (by kernel_rfl) rfl #[.int .i64 (wrap64 (rd s.reg 3 % 16 * 256 + rd s.reg 2)), .int .i64 s.counter, .int .i64 s.mgain] (by rfl) rfl rfl (by simp only [List.map_toArray, List.map_cons, List.map_nil]; rfl) ?_
        with_reducible refine (HPI.out _).mono ?_
        rintro e w12 ⟨rfl, ⟨n12, rfl⟩⟩
        refine ⟨_, rfl, ?_⟩
        refine hK.out _ _ ⟨(HI3.out.drew.drewN n12).tail_ 7, (HI3.out.drew.drewN n12).reg_ 3 (by decide), (HI3.out.drew.drewN n12).reg_ 2 (by decide), (HI3.out.drew.drewN n12).tail_ 6, (HI3.out.drew.drewN n12).tail_ 4⟩ (fun hHeld => ?_)
        clear hK K
        refine norm_ (a' := ?_) ?_ ?_
        rotate_left
        · show Act.put _ (some 176) _ = _
          simp only [Act.put, List.setIfInBounds_toArray, List.set_cons_zero, List.set_cons_succ, i64_w, i32_w]
          rfl
        refine pure_ (i := 27) (N := some 177) (v := ?_) (a' := ?_) #[true, true, true, true, true, true, true, true, true, true, true, true, true, true, true, true, true, true, true, true, true, true, true, true, true, true, true, true, false, false, false] rfl rfl (by kernel_rfl) (fun _ _ _ h => h) (Or.inl ⟨by rfl, ?_⟩) ?_ ?_
        rotate_left
        · intro w'
          go_simp
          with_reducible rfl
        rotate_left
        · simp only [Act.put, List.setIfInBounds_toArray, List.set_cons_zero, List.set_cons_succ, i64_w, i32_w]
          rfl
        refine pure_ (i := 28) (N := some 178) (v := ?_) (a' := ?_) #[true, true, true, true, true, true, true, true, true, true, true, true, true, true, true, true, true, true, true, true, true, true, true, true, true, true, true, true, true, false, false] rfl rfl (by kernel_rfl) (fun _ _ _ h => h) (Or.inl ⟨by rfl, ?_⟩) ?_ ?_
        rotate_left
        · intro w'
          go_simp
          with_reducible rfl
        rotate_left
        · simp only [Act.put, List.setIfInBounds_toArray, List.set_cons_zero, List.set_cons_succ, i64_w, i32_w]
          rfl
        refine pure_ (i := 29) (N := some 179) (v := ?_) (a' := ?_) #[true, true, true, true, true, true, true, true, true, true, true, true, true, true, true, true, true, true, true, true, true, true, true, true, true, true, true, true, true, true, false] rfl rfl (by kernel_rfl) (fun _ _ _ h => h) (Or.inl ⟨by rfl, ?_⟩) ?_ ?_
        rotate_left
        · intro w'
          go_simp
          with_reducible rfl
        rotate_left
        · simp only [Act.put, List.setIfInBounds_toArray, List.set_cons_zero, List.set_cons_succ, i64_w, i32_w]
          rfl
        refine last_ (i := 30) (N := none) #[true, true, true, true, true, true, true, true, true, true, true, true, true, true, true, true, true, true, true, true, true, true, true, true, true, true, true, true, true, true, true] rfl rfl (by kernel_rfl) (by decide) (fun K hK => ?_)
        have x6 : wc.cell? ⟨g, 146, none⟩ = some (.int .i64 s.wrest) := HI3.out.tail_ 7; have f6 := HI3.out.frozen 146
        refine skip_ (w1 := ?_) (by rfl) rfl ?_ ?_
        rotate_left
        · go_simp
          rfl
        refine hK.out _ _ ?_
        clear hK K
        refine done_ (by kernel_rfl) ?_
        have HI4 := Aside0.mk ((HI3.out.drewN (1 + n12)).set_tail 7 (.int .i64 (s.wrest + an)) (v' := { s with wrest := s.wrest + an }) (cy' := cy + 1) rfl rfl rfl rfl)
        have HT4 := Aside0.mk ((HT3.out.drewN (1 + n12)).set_ (i := 146) rfl HI3.out.base (.int .i64 (s.wrest + an)))
        clear x6 f6 w31 w32 w33 m3 HPI c7
        generalize (wc.drewN (1 + n12)).setCell ⟨g, 146, none⟩ (.int .i64 (s.wrest + an)) = w4 at *
        have hw := HWA.out
        have hr := HRA.out
        have x4 : w4.cell? ⟨g, 146, none⟩ = some (.int .i64 (s.wrest + an)) := HI4.out.tail_ 7
        have f4 := HI4.out.frozen 146
        have x5 : w4.cell? ⟨g, 147, none⟩ = some (.int .i64 s.wat) := HI4.out.tail_ 8
        have f5 := HI4.out.frozen 147
        by_cases h8 : s.wrest + an < 65536
        · have d8 : decide (65535 < s.wrest + an) = false := decide_eq_false (by omega)
          have e8 : tickV s = { s with wrest := s.wrest + an } := by rw [ETK.out, if_pos h8]
          clear h8 hw hr
          go_wp2
          first | go_end0 | ((try simp only [Exit.inBlock, Exit.then]); refine bodyPost_ret (results_none rfl _ _ _) rfl ?_)
          exact ⟨rfl, by rw [ECK.out, e8]; exact HI4.out, HT4.out⟩
        · have d8 : decide (65535 < s.wrest + an) = true := decide_eq_true (by omega)
          have e8 : tickV s = { s with wrest := s.wrest + an - 65536, wat := (s.wat + 1) % 64 } := by rw [ETK.out, if_neg h8]
          have w8 : wrap64 (s.wrest + an - 65536) = s.wrest + an - 65536 := wr64 (by omega) (by omega)
          have wa := HV3.out.wf.wat
          have w9 : wrap64 (s.wat + 1) = s.wat + 1 := wr64 (by omega) (by omega)
          have m9 : (s.wat + 1).tmod 64 = (s.wat + 1) % 64 := Int.tmod_eq_emod_of_nonneg (by omega)
          have HI5 := Aside0.mk ((HI4.out.set_tail 7 (.int .i64 (s.wrest + an - 65536)) (v' := { s with wrest := s.wrest + an - 65536 }) (cy' := cy + 1) rfl rfl rfl rfl).set_tail 8 (.int .i64 ((s.wat + 1) % 64)) (v' := { s with wrest := s.wrest + an - 65536, wat := (s.wat + 1) % 64 }) (cy' := cy + 1) rfl rfl rfl rfl)
          have HT5 := Aside0.mk ((HT4.out.set_ (i := 146) rfl HI4.out.base (.int .i64 (s.wrest + an - 65536))).set_ (i := 147) rfl HI4.out.base (.int .i64 ((s.wat + 1) % 64)))
          clear h8 hw hr wa
          go_wp2
          first | go_end0 | ((try simp only [Exit.inBlock, Exit.then]); refine bodyPost_ret (results_none rfl _ _ _) rfl ?_)
          exact ⟨rfl, by rw [ECK.out, e8]; exact HI5.out, HT5.out⟩
      · have d7 : decide (rd s.reg 3 < 128) = false := decide_eq_false h7
        have ETK := Aside0.mk (show tickV s = s from if_pos (by omega))
        clear h7
        go_wp2
        first | go_end0 | ((try simp only [Exit.inBlock, Exit.then]); refine bodyPost_ret (results_none rfl _ _ _) rfl ?_)
        exact ⟨rfl, by rw [ECK.out, ETK.out]; exact HI3.out, HT3.out⟩
end Go.Proofs.YtkmdhpmgbcdlmaaDoor.Wave
