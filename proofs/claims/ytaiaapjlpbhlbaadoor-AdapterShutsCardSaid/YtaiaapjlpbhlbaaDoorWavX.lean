/-
  THE REFERENCE's Put of the slopes' registers. By the prover of this repo.
-/
import Derived.Test.YtaiaapjlpbhlbaaDoorWavV
namespace Go.Proofs.YtaiaapjlpbhlbaaDoor.Wave
open Go.RowKit Go.Proofs.YtaiaapjlpbhlbaaDoor.Pitch Go.Proofs.YtaiaapjlpbhlbaaDoor.PAdapterTimes Go.Proofs.YtaiaapjlpbhlbaaDoorW.PrintWords Go.Proofs.YtaiaapjlpbhlbaaDoorW.PrintLast Go.Proofs.YtaiaapjlpbhlbaaDoorW.PrintMore
set_option linter.unusedVariables false
set_option linter.unusedSimpArgs false
set_option maxRecDepth 20000
set_option maxRecDepth 20000 in
set_option maxHeartbeats 4000000 in
theorem rPut_vol (base : Nat) (g : Nat) (v : V) (cy : Int) (W : World) (h : IsR base W g v cy) (hw : Wf v) (b : Int) (hb : U8 b) :
    Calls Tryd.prog 57 #[.pointer (some ⟨g, 0, none⟩), .int .i64 16512, .int .i64 b] W fun e W' => e = .returned (.tuple #[]) ∧ IsR base W' g (vol v b) cy ∧ Turn base W W' (One g) := by
  have H := Aside0.mk h
  have HO := Aside0.mk (rout_calls base g v cy W h hw)
  have HBS := Aside0.mk (show base ≤ W.heap.size by have := h.base; have := h.at_.lt; omega)
  have HP := Aside0.mk (fun (W1 : World) => rput_calls v.vreg v.vgain v.vn b hb W1)
  unfold vol
  clear h hw hb
  generalize (if 128 ≤ b then b % 64 else v.vgain) = q at *
  go_enter Tryd.func57, Tryd.ntmps57
  go_wp2_with fail
  refine HO.out.mono ?_
  rintro e w3 ⟨rfl, hb_⟩
  have HI3 := Aside0.mk (H.out.below hb_)
  have HT3 := Aside0.mk (Turn.of_below (S := One g) hb_ HBS.out)
  have c9 : w3.cell? ⟨g, 137, none⟩ = some (.int .i64 (rd v.reg 9)) := HI3.out.reg_ 9 (by decide)
  have ck : w3.cell? ⟨g, 128 + 0, none⟩ = some (.int .i64 (rd v.reg 0)) := HI3.out.reg_ 0 (by decide)
  have fk := HI3.out.frozen (128 + 0)
  have HI4 := Aside0.mk (show IsR base (w3.setCell ⟨g, 128 + 0, none⟩ (.int .i64 b)) g (regV v 0 b) cy from HI3.out.set_reg 0 b (by decide))
  have HT4 := Aside0.mk (HT3.out.set_ (i := 128 + 0) rfl H.out.base (.int .i64 b))
  clear hb_
  have s0 : (w3.setCell ⟨g, 128 + 0, none⟩ (.int .i64 b)).cell? ⟨g, 139, none⟩ = some (.int .i64 v.vreg) := HI4.out.tail_ 0
  have s1 : (w3.setCell ⟨g, 128 + 0, none⟩ (.int .i64 b)).cell? ⟨g, 140, none⟩ = some (.int .i64 v.vgain) := HI4.out.tail_ 1
  have s2 : (w3.setCell ⟨g, 128 + 0, none⟩ (.int .i64 b)).cell? ⟨g, 141, none⟩ = some (.int .i64 v.vn) := HI4.out.tail_ 2
  go_wp2_with fail
  refine (HP.out _).mono ?_
  rintro e w6 ⟨he, hb_⟩
  subst he
  unfold slV
  have HI5 := Aside0.mk (HI4.out.below hb_)
  have HT5 := Aside0.mk (HT4.out.trans (Turn.of_below (S := One g) hb_ (by have := HI4.out.base; have := HI4.out.at_.lt; omega)))
  clear hb_ s0 s1 s2
  have x0 : w6.cell? ⟨g, 139, none⟩ = some (.int .i64 v.vreg) := HI5.out.tail_ 0
  have x1 : w6.cell? ⟨g, 140, none⟩ = some (.int .i64 v.vgain) := HI5.out.tail_ 1
  have x2 : w6.cell? ⟨g, 141, none⟩ = some (.int .i64 v.vn) := HI5.out.tail_ 2
  have f0 := HI5.out.frozen 139
  have f1 := HI5.out.frozen 140
  have f2 := HI5.out.frozen 141
  go_wp2
  first | go_end0 | ((try simp only [Exit.inBlock, Exit.then]); refine bodyPost_ret (results_none rfl _ _ _) rfl ?_)
  exact ⟨rfl, ((HI5.out.set_tail 0 (.int .i64 b) (v' := { regV v 0 b with vreg := b }) (cy' := cy) rfl rfl rfl rfl).set_tail 1 (.int .i64 q) (v' := { regV v 0 b with vreg := b, vgain := q }) (cy' := cy) rfl rfl rfl rfl).set_tail 2 (.int .i64 0) rfl rfl rfl rfl, ((HT5.out.set_ (i := 139) rfl H.out.base _).set_ (i := 140) rfl H.out.base _).set_ (i := 141) rfl H.out.base _⟩
set_option maxRecDepth 20000 in
set_option maxHeartbeats 4000000 in
theorem rPut_tur (base : Nat) (g : Nat) (v : V) (cy : Int) (W : World) (h : IsR base W g v cy) (hw : Wf v) (b : Int) (hb : U8 b) :
    Calls Tryd.prog 57 #[.pointer (some ⟨g, 0, none⟩), .int .i64 16516, .int .i64 b] W fun e W' => e = .returned (.tuple #[]) ∧ IsR base W' g (tur v b) cy ∧ Turn base W W' (One g) := by
  have H := Aside0.mk h
  have HO := Aside0.mk (rout_calls base g v cy W h hw)
  have HBS := Aside0.mk (show base ≤ W.heap.size by have := h.base; have := h.at_.lt; omega)
  have HP := Aside0.mk (fun (W1 : World) => rput_calls v.mreg v.mgain v.mn b hb W1)
  unfold tur
  clear h hw hb
  generalize (if 128 ≤ b then b % 64 else v.mgain) = q at *
  go_enter Tryd.func57, Tryd.ntmps57
  go_wp2_with fail
  refine HO.out.mono ?_
  rintro e w3 ⟨rfl, hb_⟩
  have HI3 := Aside0.mk (H.out.below hb_)
  have HT3 := Aside0.mk (Turn.of_below (S := One g) hb_ HBS.out)
  have c9 : w3.cell? ⟨g, 137, none⟩ = some (.int .i64 (rd v.reg 9)) := HI3.out.reg_ 9 (by decide)
  have ck : w3.cell? ⟨g, 128 + 4, none⟩ = some (.int .i64 (rd v.reg 4)) := HI3.out.reg_ 4 (by decide)
  have fk := HI3.out.frozen (128 + 4)
  have HI4 := Aside0.mk (show IsR base (w3.setCell ⟨g, 128 + 4, none⟩ (.int .i64 b)) g (regV v 4 b) cy from HI3.out.set_reg 4 b (by decide))
  have HT4 := Aside0.mk (HT3.out.set_ (i := 128 + 4) rfl H.out.base (.int .i64 b))
  clear hb_
  have s0 : (w3.setCell ⟨g, 128 + 4, none⟩ (.int .i64 b)).cell? ⟨g, 142, none⟩ = some (.int .i64 v.mreg) := HI4.out.tail_ 3
  have s1 : (w3.setCell ⟨g, 128 + 4, none⟩ (.int .i64 b)).cell? ⟨g, 143, none⟩ = some (.int .i64 v.mgain) := HI4.out.tail_ 4
  have s2 : (w3.setCell ⟨g, 128 + 4, none⟩ (.int .i64 b)).cell? ⟨g, 144, none⟩ = some (.int .i64 v.mn) := HI4.out.tail_ 5
  go_wp2_with fail
  refine (HP.out _).mono ?_
  rintro e w6 ⟨he, hb_⟩
  subst he
  unfold slV
  have HI5 := Aside0.mk (HI4.out.below hb_)
  have HT5 := Aside0.mk (HT4.out.trans (Turn.of_below (S := One g) hb_ (by have := HI4.out.base; have := HI4.out.at_.lt; omega)))
  clear hb_ s0 s1 s2
  have x0 : w6.cell? ⟨g, 142, none⟩ = some (.int .i64 v.mreg) := HI5.out.tail_ 3
  have x1 : w6.cell? ⟨g, 143, none⟩ = some (.int .i64 v.mgain) := HI5.out.tail_ 4
  have x2 : w6.cell? ⟨g, 144, none⟩ = some (.int .i64 v.mn) := HI5.out.tail_ 5
  have f0 := HI5.out.frozen 142
  have f1 := HI5.out.frozen 143
  have f2 := HI5.out.frozen 144
  go_wp2
  first | go_end0 | ((try simp only [Exit.inBlock, Exit.then]); refine bodyPost_ret (results_none rfl _ _ _) rfl ?_)
  exact ⟨rfl, ((HI5.out.set_tail 3 (.int .i64 b) (v' := { regV v 4 b with mreg := b }) (cy' := cy) rfl rfl rfl rfl).set_tail 4 (.int .i64 q) (v' := { regV v 4 b with mreg := b, mgain := q }) (cy' := cy) rfl rfl rfl rfl).set_tail 5 (.int .i64 0) rfl rfl rfl rfl, ((HT5.out.set_ (i := 142) rfl H.out.base _).set_ (i := 143) rfl H.out.base _).set_ (i := 144) rfl H.out.base _⟩
set_option maxRecDepth 20000 in
set_option maxHeartbeats 4000000 in
theorem rPut_trn (base : Nat) (g : Nat) (v : V) (cy : Int) (W : World) (h : IsR base W g v cy) (hw : Wf v) (b : Int) (hb : U8 b) :
    Calls Tryd.prog 57 #[.pointer (some ⟨g, 0, none⟩), .int .i64 16520, .int .i64 b] W fun e W' => e = .returned (.tuple #[]) ∧ IsR base W' g (layV (regV v 8 b) b) cy ∧ Turn base W W' (One g) := by
  have H := Aside0.mk h
  have HO := Aside0.mk (rout_calls base g v cy W h hw)
  have HBS := Aside0.mk (show base ≤ W.heap.size by have := h.base; have := h.at_.lt; omega)
  have e7 : rd (regV v 8 b).reg 7 = rd v.reg 7 := by
    show rd (v.reg.set 8 b) 7 = _
    unfold rd
    rw [show (7 : Int).toNat = 7 from rfl, List.getD_eq_getElem?_getD, List.getD_eq_getElem?_getD, List.getElem?_set_ne (by decide)]
  have hbt := hw.bat
  have m8 : b.tmod 8 = b % 8 := Int.tmod_eq_emod_of_nonneg hb.1
  unfold layV
  rw [e7]
  clear h hw hb
  by_cases h1 : 128 ≤ rd v.reg 7
  · have d1 : decide (128 ≤ rd v.reg 7) = true := decide_eq_true h1
    rw [if_pos h1]
    clear h1
    go_enter Tryd.func57, Tryd.ntmps57
    go_wp2_with fail
    refine HO.out.mono ?_
    rintro e w3 ⟨rfl, hb_⟩
    have HI3 := Aside0.mk (H.out.below hb_)
    have HT3 := Aside0.mk (Turn.of_below (S := One g) hb_ HBS.out)
    have c9 : w3.cell? ⟨g, 137, none⟩ = some (.int .i64 (rd v.reg 9)) := HI3.out.reg_ 9 (by decide)
    have ck : w3.cell? ⟨g, 128 + 8, none⟩ = some (.int .i64 (rd v.reg 8)) := HI3.out.reg_ 8 (by decide)
    have fk := HI3.out.frozen (128 + 8)
    have HI4 := Aside0.mk (show IsR base (w3.setCell ⟨g, 128 + 8, none⟩ (.int .i64 b)) g (regV v 8 b) cy from HI3.out.set_reg 8 b (by decide))
    have HT4 := Aside0.mk (HT3.out.set_ (i := 128 + 8) rfl H.out.base (.int .i64 b))
    clear hb_
    have c7 : (w3.setCell ⟨g, 128 + 8, none⟩ (.int .i64 b)).cell? ⟨g, 135, none⟩ = some (.int .i64 (rd v.reg 7)) := by rw [← e7]; exact HI4.out.reg_ 7 (by decide)
    have HI5 := Aside0.mk (HI4.out.drew.set_turns v.bat.toNat (b % 8) (by omega))
    have HI6 := Aside0.mk (HI5.out.drew.set_turns ((v.bat + 1) % 64).toNat (b % 8) (by omega))
    have HI7 := Aside0.mk (HI6.out.set_tail 10 (.int .i64 ((v.bat + 2) % 64)) (v' := lay1 (lay1 (regV v 8 b) b) b) (cy' := cy) rfl rfl rfl (by
      show _ = tailR (lay1 (lay1 (regV v 8 b) b) b) cy
      unfold lay1 tailR
      dsimp only
      rw [show (((regV v 8 b).bat + 1) % 64 + 1) % 64 = (v.bat + 2) % 64 from by show ((v.bat + 1) % 64 + 1) % 64 = _; omega]
      rfl))
    have HT7 := Aside0.mk ((((HT4.out.drew.set_ (i := 64 + v.bat.toNat) rfl H.out.base (.int .i64 (b % 8))).drew).set_ (i := 64 + ((v.bat + 1) % 64).toNat) rfl H.out.base (.int .i64 (b % 8))).set_ (i := 149) rfl H.out.base (.int .i64 ((v.bat + 2) % 64)))
    have cb : (w3.setCell ⟨g, 128 + 8, none⟩ (.int .i64 b)).drew.cell? ⟨g, 149, none⟩ = some (.int .i64 v.bat) := HI4.out.drew.tail_ 10
    have ct : (w3.setCell ⟨g, 128 + 8, none⟩ (.int .i64 b)).drew.cell? ⟨g, 64 + v.bat.toNat, none⟩ = some (.int .i64 (rd v.turns v.bat)) := HI4.out.drew.turns_ v.bat hbt.1 hbt.2
    have ft := HI4.out.drew.frozen (64 + v.bat.toNat)
    have HA5 := Aside0.mk (HI4.out.set_turns v.bat.toNat (b % 8) (by omega))
    have HA6 := Aside0.mk (HA5.out.set_turns ((v.bat + 1) % 64).toNat (b % 8) (by omega))
    have cb2 : ((w3.setCell ⟨g, 128 + 8, none⟩ (.int .i64 b)).setCell ⟨g, 64 + v.bat.toNat, none⟩ (.int .i64 (b % 8))).cell? ⟨g, 149, none⟩ = some (.int .i64 v.bat) := HA5.out.tail_ 10
    have ct2 := HA5.out.turns_ ((v.bat + 1) % 64) (by omega) (by omega)
    have ft1 := HI3.out.frozen (64 + v.bat.toNat)
    have ft2 := HI3.out.frozen (64 + ((v.bat + 1) % 64).toNat)
    have cb3 : (((w3.setCell ⟨g, 128 + 8, none⟩ (.int .i64 b)).setCell ⟨g, 64 + v.bat.toNat, none⟩ (.int .i64 (b % 8))).setCell ⟨g, 64 + ((v.bat + 1) % 64).toNat, none⟩ (.int .i64 (b % 8))).cell? ⟨g, 149, none⟩ = some (.int .i64 v.bat) := HA6.out.tail_ 10
    have ft3 := HI3.out.frozen 149
    have q0 := eq_true hbt.1
    have q1 := eq_true hbt.2
    have q2 := eq_true (show 0 ≤ (v.bat + 1) % 64 by omega)
    have q3 := eq_true (show (v.bat + 1) % 64 < 64 by omega)
    have w1 : wrap64 (v.bat + 1) = v.bat + 1 := wr64 (by omega) (by omega)
    have w2 : wrap64 (v.bat + 2) = v.bat + 2 := wr64 (by omega) (by omega)
    have wi1 : IntKind.i64.wrap (v.bat + 1) = v.bat + 1 := by rw [IntKind.wrap_i64]; omega
    have n1 : (v.bat + 1).tmod 64 = (v.bat + 1) % 64 := Int.tmod_eq_emod_of_nonneg (by omega)
    have n2 : (v.bat + 2).tmod 64 = (v.bat + 2) % 64 := Int.tmod_eq_emod_of_nonneg (by omega)
    clear hbt e7
    go_wp2
    refine start_ (n := 11) (S := fun w' => w'.cell? ⟨g, 149, none⟩ = some (.int .i64 v.bat)) (ds := [10]) #[false, false, false, false, false, false, false, false, false, false, false] (by kernel_rfl) rfl rfl (cb) (fun hHeld => ?_)
    refine pure_ (i := 0) (N := some 117) (v := ?_) (a' := ?_) #[true, false, false, false, false, false, false, false, false, false, false] rfl rfl (by kernel_rfl) (fun _ _ _ h => h) (Or.inl ⟨by rfl, ?_⟩) ?_ ?_
    rotate_left
    · intro w'
      go_simp
      with_reducible rfl
    rotate_left
    · simp only [Act.put, List.setIfInBounds_toArray, List.set_cons_zero, List.set_cons_succ, i64_w, i32_w]
      rfl
    refine pure_ (i := 1) (N := some 118) (v := ?_) (a' := ?_) #[true, true, false, false, false, false, false, false, false, false, false] rfl rfl (by kernel_rfl) (fun _ _ _ h => h) (Or.inl ⟨by rfl, ?_⟩) ?_ ?_
    rotate_left
    · intro w'
      go_simp
      with_reducible rfl
    rotate_left
    · simp only [Act.put, List.setIfInBounds_toArray, List.set_cons_zero, List.set_cons_succ, i64_w, i32_w]
      rfl
    refine pure_ (i := 2) (N := some 119) (v := ?_) (a' := ?_) #[true, true, true, false, false, false, false, false, false, false, false] rfl rfl (by kernel_rfl) (fun _ _ _ h => h) (Or.inl ⟨by rfl, ?_⟩) ?_ ?_
    rotate_left
    · intro w'
      go_simp
      with_reducible rfl
    rotate_left
    · simp only [Act.put, List.setIfInBounds_toArray, List.set_cons_zero, List.set_cons_succ, i64_w, i32_w]
      rfl
    refine pure_ (i := 3) (N := some 120) (v := ?_) (a' := ?_) #[true, true, true, true, false, false, false, false, false, false, false] rfl rfl (by kernel_rfl) (fun _ _ _ h => h) (Or.inl ⟨by rfl, ?_⟩) ?_ ?_
    rotate_left
    · intro w'
      go_simp
      with_reducible rfl
    rotate_left
    · simp only [Act.put, List.setIfInBounds_toArray, List.set_cons_zero, List.set_cons_succ, i64_w, i32_w]
      rfl
    refine pure_ (i := 5) (N := some 122) (v := ?_) (a' := ?_) #[true, true, true, true, false, true, false, false, false, false, false] rfl rfl (by kernel_rfl) (fun _ _ _ h => h) (Or.inl ⟨by rfl, ?_⟩) ?_ ?_
    rotate_left
    · intro w'
      go_simp
      with_reducible rfl
    rotate_left
    · simp only [Act.put, List.setIfInBounds_toArray, List.set_cons_zero, List.set_cons_succ, i64_w, i32_w]
      rfl
    refine pure_ (i := 6) (N := some 123) (v := ?_) (a' := ?_) #[true, true, true, true, false, true, true, false, false, false, false] rfl rfl (by kernel_rfl) (fun _ _ _ h => h) (Or.inl ⟨by rfl, ?_⟩) ?_ ?_
    rotate_left
    · intro w'
      go_simp
      with_reducible rfl
    rotate_left
    · simp only [Act.put, List.setIfInBounds_toArray, List.set_cons_zero, List.set_cons_succ, i64_w, i32_w]
      rfl
    refine pure_ (i := 7) (N := some 124) (v := ?_) (a' := ?_) #[true, true, true, true, false, true, true, true, false, false, false] rfl rfl (by kernel_rfl) (fun _ _ _ h => h) (Or.inl ⟨by rfl, ?_⟩) ?_ ?_
    rotate_left
    · intro w'
      go_simp
      with_reducible rfl
    rotate_left
    · simp only [Act.put, List.setIfInBounds_toArray, List.set_cons_zero, List.set_cons_succ, i64_w, i32_w]
      rfl
    refine pure_ (i := 8) (N := some 125) (v := ?_) (a' := ?_) #[true, true, true, true, false, true, true, true, true, false, false] rfl rfl (by kernel_rfl) (fun _ _ _ h => h) (Or.inl ⟨by rfl, ?_⟩) ?_ ?_
    rotate_left
    · intro w'
      go_simp
      with_reducible rfl
    rotate_left
    · simp only [Act.put, List.setIfInBounds_toArray, List.set_cons_zero, List.set_cons_succ, i64_w, i32_w]
      rfl
    refine take_ (i := 4) (N := some 121) (v := ?_) (a' := ?_) #[true, true, true, true, true, true, true, true, true, false, false] rfl rfl (by kernel_rfl) (fun _ _ _ h => h) (Or.inl ⟨by rfl, ?_⟩) hHeld ?_ ?_
    rotate_left
    · intro w' s0
      go_simp
      with_reducible rfl
    rotate_left
    · simp only [Act.put, List.setIfInBounds_toArray, List.set_cons_zero, List.set_cons_succ, i64_w, i32_w]
      rfl
    refine pure_ (i := 9) (N := some 126) (v := ?_) (a' := ?_) #[true, true, true, true, true, true, true, true, true, true, false] rfl rfl (by kernel_rfl) (fun _ _ _ h => h) (Or.inl ⟨by rfl, ?_⟩) ?_ ?_
    rotate_left
    · intro w'
      go_simp
      with_reducible rfl
    rotate_left
    · simp only [Act.put, List.setIfInBounds_toArray, List.set_cons_zero, List.set_cons_succ, i64_w, i32_w]
      rfl
    refine last_ (i := 10) (N := none) #[true, true, true, true, true, true, true, true, true, true, true] rfl rfl (by kernel_rfl) (by decide) (fun K hK => ?_)
    refine skip_ (w1 := ?_) (by rfl) rfl ?_ ?_
    rotate_left
    · go_simp
      rfl
    refine hK.out _ _ ?_
    clear hK K
    refine done_ (by kernel_rfl) ?_
    go_wp2
    refine start_ (n := 13) (S := fun w' => w'.cell? ⟨g, 149, none⟩ = some (.int .i64 v.bat)) (ds := [12]) #[false, false, false, false, false, false, false, false, false, false, false, false, false] (by kernel_rfl) rfl rfl (cb2) (fun hHeld => ?_)
    refine pure_ (i := 0) (N := some 127) (v := ?_) (a' := ?_) #[true, false, false, false, false, false, false, false, false, false, false, false, false] rfl rfl (by kernel_rfl) (fun _ _ _ h => h) (Or.inl ⟨by rfl, ?_⟩) ?_ ?_
    rotate_left
    · intro w'
      go_simp
      with_reducible rfl
    rotate_left
    · simp only [Act.put, List.setIfInBounds_toArray, List.set_cons_zero, List.set_cons_succ, i64_w, i32_w]
      rfl
    refine pure_ (i := 1) (N := some 128) (v := ?_) (a' := ?_) #[true, true, false, false, false, false, false, false, false, false, false, false, false] rfl rfl (by kernel_rfl) (fun _ _ _ h => h) (Or.inl ⟨by rfl, ?_⟩) ?_ ?_
    rotate_left
    · intro w'
      go_simp
      with_reducible rfl
    rotate_left
    · simp only [Act.put, List.setIfInBounds_toArray, List.set_cons_zero, List.set_cons_succ, i64_w, i32_w]
      rfl
    refine pure_ (i := 2) (N := some 129) (v := ?_) (a' := ?_) #[true, true, true, false, false, false, false, false, false, false, false, false, false] rfl rfl (by kernel_rfl) (fun _ _ _ h => h) (Or.inl ⟨by rfl, ?_⟩) ?_ ?_
    rotate_left
    · intro w'
      go_simp
      with_reducible rfl
    rotate_left
    · simp only [Act.put, List.setIfInBounds_toArray, List.set_cons_zero, List.set_cons_succ, i64_w, i32_w]
      rfl
    refine pure_ (i := 3) (N := some 130) (v := ?_) (a' := ?_) #[true, true, true, true, false, false, false, false, false, false, false, false, false] rfl rfl (by kernel_rfl) (fun _ _ _ h => h) (Or.inl ⟨by rfl, ?_⟩) ?_ ?_
    rotate_left
    · intro w'
      go_simp
      with_reducible rfl
    rotate_left
    · simp only [Act.put, List.setIfInBounds_toArray, List.set_cons_zero, List.set_cons_succ, i64_w, i32_w]
      rfl
    refine pure_ (i := 7) (N := some 134) (v := ?_) (a' := ?_) #[true, true, true, true, false, false, false, true, false, false, false, false, false] rfl rfl (by kernel_rfl) (fun _ _ _ h => h) (Or.inl ⟨by rfl, ?_⟩) ?_ ?_
    rotate_left
    · intro w'
      go_simp
      with_reducible rfl
    rotate_left
    · simp only [Act.put, List.setIfInBounds_toArray, List.set_cons_zero, List.set_cons_succ, i64_w, i32_w]
      rfl
    refine pure_ (i := 8) (N := some 135) (v := ?_) (a' := ?_) #[true, true, true, true, false, false, false, true, true, false, false, false, false] rfl rfl (by kernel_rfl) (fun _ _ _ h => h) (Or.inl ⟨by rfl, ?_⟩) ?_ ?_
    rotate_left
    · intro w'
      go_simp
      with_reducible rfl
    rotate_left
    · simp only [Act.put, List.setIfInBounds_toArray, List.set_cons_zero, List.set_cons_succ, i64_w, i32_w]
      rfl
    refine pure_ (i := 9) (N := some 136) (v := ?_) (a' := ?_) #[true, true, true, true, false, false, false, true, true, true, false, false, false] rfl rfl (by kernel_rfl) (fun _ _ _ h => h) (Or.inl ⟨by rfl, ?_⟩) ?_ ?_
    rotate_left
    · intro w'
      go_simp
      with_reducible rfl
    rotate_left
    · simp only [Act.put, List.setIfInBounds_toArray, List.set_cons_zero, List.set_cons_succ, i64_w, i32_w]
      rfl
    refine pure_ (i := 10) (N := some 137) (v := ?_) (a' := ?_) #[true, true, true, true, false, false, false, true, true, true, true, false, false] rfl rfl (by kernel_rfl) (fun _ _ _ h => h) (Or.inl ⟨by rfl, ?_⟩) ?_ ?_
    rotate_left
    · intro w'
      go_simp
      with_reducible rfl
    rotate_left
    · simp only [Act.put, List.setIfInBounds_toArray, List.set_cons_zero, List.set_cons_succ, i64_w, i32_w]
      rfl
    refine take_ (i := 4) (N := some 131) (v := ?_) (a' := ?_) #[true, true, true, true, true, false, false, true, true, true, true, false, false] rfl rfl (by kernel_rfl) (fun _ _ _ h => h) (Or.inl ⟨by rfl, ?_⟩) hHeld ?_ ?_
    rotate_left
    · intro w' s0
      go_simp
      with_reducible rfl
    rotate_left
    · simp only [Act.put, List.setIfInBounds_toArray, List.set_cons_zero, List.set_cons_succ, i64_w, i32_w]
      rfl
    refine pure_ (i := 5) (N := some 132) (v := ?_) (a' := ?_) #[true, true, true, true, true, true, false, true, true, true, true, false, false] rfl rfl (by kernel_rfl) (fun _ _ _ h => h) (Or.inl ⟨by rfl, ?_⟩) ?_ ?_
    rotate_left
    · intro w'
      go_simp
      with_reducible rfl
    rotate_left
    · simp only [Act.put, List.setIfInBounds_toArray, List.set_cons_zero, List.set_cons_succ, i64_w, i32_w]
      rfl
    refine pure_ (i := 6) (N := some 133) (v := ?_) (a' := ?_) #[true, true, true, true, true, true, true, true, true, true, true, false, false] rfl rfl (by kernel_rfl) (fun _ _ _ h => h) (Or.inl ⟨by rfl, ?_⟩) ?_ ?_
    rotate_left
    · intro w'
      go_simp
      with_reducible rfl
    rotate_left
    · simp only [Act.put, List.setIfInBounds_toArray, List.set_cons_zero, List.set_cons_succ, i64_w, i32_w]
      rfl
    refine pure_ (i := 11) (N := some 138) (v := ?_) (a' := ?_) #[true, true, true, true, true, true, true, true, true, true, true, true, false] rfl rfl (by kernel_rfl) (fun _ _ _ h => h) (Or.inl ⟨by rfl, ?_⟩) ?_ ?_
    rotate_left
    · intro w'
      go_simp
      with_reducible rfl
    rotate_left
    · simp only [Act.put, List.setIfInBounds_toArray, List.set_cons_zero, List.set_cons_succ, i64_w, i32_w]
      rfl
    refine last_ (i := 12) (N := none) #[true, true, true, true, true, true, true, true, true, true, true, true, true] rfl rfl (by kernel_rfl) (by decide) (fun K hK => ?_)
    refine skip_ (w1 := ?_) (by rfl) rfl ?_ ?_
    rotate_left
    · go_simp
      rfl
    refine hK.out _ _ ?_
    clear hK K
    refine done_ (by kernel_rfl) ?_
    go_wp2
    first | go_end0 | ((try simp only [Exit.inBlock, Exit.then]); refine bodyPost_ret (results_none rfl _ _ _) rfl ?_)
    exact ⟨rfl, HI7.out, HT7.out⟩
  · have d1 : decide (128 ≤ rd v.reg 7) = false := decide_eq_false h1
    rw [if_neg h1]
    clear h1
    go_enter Tryd.func57, Tryd.ntmps57
    go_wp2_with fail
    refine HO.out.mono ?_
    rintro e w3 ⟨rfl, hb_⟩
    have HI3 := Aside0.mk (H.out.below hb_)
    have HT3 := Aside0.mk (Turn.of_below (S := One g) hb_ HBS.out)
    have c9 : w3.cell? ⟨g, 137, none⟩ = some (.int .i64 (rd v.reg 9)) := HI3.out.reg_ 9 (by decide)
    have ck : w3.cell? ⟨g, 128 + 8, none⟩ = some (.int .i64 (rd v.reg 8)) := HI3.out.reg_ 8 (by decide)
    have fk := HI3.out.frozen (128 + 8)
    have HI4 := Aside0.mk (show IsR base (w3.setCell ⟨g, 128 + 8, none⟩ (.int .i64 b)) g (regV v 8 b) cy from HI3.out.set_reg 8 b (by decide))
    have HT4 := Aside0.mk (HT3.out.set_ (i := 128 + 8) rfl H.out.base (.int .i64 b))
    clear hb_
    have c7 : (w3.setCell ⟨g, 128 + 8, none⟩ (.int .i64 b)).cell? ⟨g, 135, none⟩ = some (.int .i64 (rd v.reg 7)) := by rw [← e7]; exact HI4.out.reg_ 7 (by decide)
    go_wp2
    first | go_end0 | ((try simp only [Exit.inBlock, Exit.then]); refine bodyPost_ret (results_none rfl _ _ _) rfl ?_)
    exact ⟨rfl, HI4.out, HT4.out⟩
end Go.Proofs.YtaiaapjlpbhlbaaDoor.Wave
