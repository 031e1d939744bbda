/-
 A CYCLE: Clock. By the prover of this repo.
-/
import Derived.Test.YtaiaapjlpbhlbaaDoorZWavH
import Derived.Test.YtaiaapjlpbhlbaaDoorZWavP
namespace Go.Proofs.YtaiaapjlpbhlbaaDoor.Wave
open Go.RowKit Go.Proofs.YtaiaapjlpbhlbaaDoor.Pitch Go.Proofs.YtaiaapjlpbhlbaaDoor.PAdapterTimes Go.Proofs.YtaiaapjlpbhlbaaDoorW.PrintWords Go.Proofs.YtaiaapjlpbhlbaaDoorW.PrintLast Go.Proofs.YtaiaapjlpbhlbaaDoorW.PrintMore
set_option linter.unusedVariables false
set_option linter.unusedSimpArgs false
set_option maxRecDepth 20000
structure Okv (v : V) : Prop where
 wf : Wf v
 vn : 0 ≤ v.vn ∧ v.vn < 131072
 mn : 0 ≤ v.mn ∧ v.mn < 131072
 wrest : 0 ≤ v.wrest ∧ v.wrest < 65536
 brest : 0 ≤ v.brest ∧ v.brest < 65536
 counter : -64 ≤ v.counter ∧ v.counter < 64
 cycle : 0 ≤ v.cycle ∧ v.cycle < 16
theorem okv0 : Okv v0 := ⟨wf0, by decide, by decide, by decide, by decide, by decide, by decide⟩
def clk1 (v : V) : V := if rd v.reg 3 < 64 then clkM (clkV v (rd v.reg 10)) (rd v.reg 10) else v
def cycV (v : V) : V := { v with cycle := (v.cycle + 1) % 16 }
def tickV (s : V) : V := if 128 ≤ rd s.reg 3 then s else addW s (ans (tw s 3 2) s.counter s.mgain)
def clockV (v : V) : V := if 0 < (cycV (clk1 v)).cycle then cycV (clk1 v) else tickV (stepV (cycV (clk1 v)))
theorem ans_range (p c g : Int) : 0 ≤ ans p c g ∧ ans p c g < 65536 := by
 unfold ans
 split
 ·decide
 ·next h =>
  have := Pit.pitch_range p c g (by omega)
  omega
theorem clkS_ok (r a n m : Int) (hr : U8 r) (ha : 0 ≤ a ∧ a < 64) (hn : 0 ≤ n ∧ n < 131072) (hm : U8 m) : (0 ≤ (clkS r a n m).1 ∧ (clkS r a n m).1 < 64) ∧ (0 ≤ (clkS r a n m).2 ∧ (clkS r a n m).2 < 131072) := by
 unfold clkS
 have h1 : 8 * (r % 64 + 1) * (m + 1) ≤ 131072 := by
  have : (8 * (r % 64 + 1)) * (m + 1) ≤ 512 * 256 := Int.mul_le_mul (by omega) (by have := hm.2; omega) (by have := hm.1; omega) (by decide)
  omega
 generalize 8 * (r % 64 + 1) * (m + 1) = q at *
 split
 ·exact ⟨ha, hn⟩
 split
 ·exact ⟨ha, by dsimp only; omega⟩
 split
 ·exact ⟨by dsimp only; omega, by dsimp only; decide⟩
 split
 ·exact ⟨by dsimp only; omega, by dsimp only; decide⟩
 ·exact ⟨ha, by dsimp only; decide⟩
theorem clkV_ok {v : V} (h : Okv v) {m : Int} (hm : U8 m) : Okv (clkV v m) := by
 have := clkS_ok v.vreg v.vgain v.vn m h.wf.vreg h.wf.vgain h.vn hm
 exact ⟨⟨h.wf.table, h.wf.turns, h.wf.reg, this.1, h.wf.mgain, h.wf.vreg, h.wf.mreg, h.wf.wat, h.wf.bat, h.wf.held⟩, this.2, h.mn, h.wrest, h.brest, h.counter, h.cycle⟩
theorem clkM_ok {v : V} (h : Okv v) {m : Int} (hm : U8 m) : Okv (clkM v m) := by
 have := clkS_ok v.mreg v.mgain v.mn m h.wf.mreg h.wf.mgain h.mn hm
 exact ⟨⟨h.wf.table, h.wf.turns, h.wf.reg, h.wf.vgain, this.1, h.wf.vreg, h.wf.mreg, h.wf.wat, h.wf.bat, h.wf.held⟩, h.vn, this.2, h.wrest, h.brest, h.counter, h.cycle⟩
theorem clk1_ok {v : V} (h : Okv v) : Okv (clk1 v) := by
 unfold clk1
 split
 ·exact clkM_ok (clkV_ok h (h.wf.reg 10)) (h.wf.reg 10)
 ·exact h
theorem clk1_reg (v : V) : (clk1 v).reg = v.reg := by unfold clk1; split <;> rfl
theorem clk1_cycle (v : V) : (clk1 v).cycle = v.cycle := by unfold clk1; split <;> rfl
theorem cycV_ok {v : V} (h : Okv v) : Okv (cycV v) := by
 exact ⟨⟨h.wf.table, h.wf.turns, h.wf.reg, h.wf.vgain, h.wf.mgain, h.wf.vreg, h.wf.mreg, h.wf.wat, h.wf.bat, h.wf.held⟩, h.vn, h.mn, h.wrest, h.brest, h.counter, by show 0 ≤ (v.cycle + 1) % 16 ∧ (v.cycle + 1) % 16 < 16; omega⟩
theorem addB_ok {v : V} (h : Okv v) {n : Int} (h0 : 0 ≤ n) (h1 : n < 65536) : Okv (addB v n) := by
 have hb := h.brest
 unfold addB
 split
 ·exact ⟨⟨h.wf.table, h.wf.turns, h.wf.reg, h.wf.vgain, h.wf.mgain, h.wf.vreg, h.wf.mreg, h.wf.wat, h.wf.bat, h.wf.held⟩, h.vn, h.mn, h.wrest, by dsimp only; omega, h.counter, h.cycle⟩
 ·exact ⟨⟨h.wf.table, h.wf.turns, h.wf.reg, h.wf.vgain, h.wf.mgain, h.wf.vreg, h.wf.mreg, h.wf.wat, by dsimp only; omega, h.wf.held⟩, h.vn, h.mn, h.wrest, by dsimp only; omega, h.counter, h.cycle⟩
theorem addW_ok {v : V} (h : Okv v) {n : Int} (h0 : 0 ≤ n) (h1 : n < 65536) : Okv (addW v n) := by
 have hb := h.wrest
 unfold addW
 split
 ·exact ⟨⟨h.wf.table, h.wf.turns, h.wf.reg, h.wf.vgain, h.wf.mgain, h.wf.vreg, h.wf.mreg, h.wf.wat, h.wf.bat, h.wf.held⟩, h.vn, h.mn, by dsimp only; omega, h.brest, h.counter, h.cycle⟩
 ·exact ⟨⟨h.wf.table, h.wf.turns, h.wf.reg, h.wf.vgain, h.wf.mgain, h.wf.vreg, h.wf.mreg, by dsimp only; omega, h.wf.bat, h.wf.held⟩, h.vn, h.mn, by dsimp only; omega, h.brest, h.counter, h.cycle⟩
theorem turned_ok {v : V} (h : Okv v) (t : Int) : Okv (turned v t) := by
 unfold turned
 exact ⟨⟨h.wf.table, h.wf.turns, h.wf.reg, h.wf.vgain, h.wf.mgain, h.wf.vreg, h.wf.mreg, h.wf.wat, h.wf.bat, h.wf.held⟩, h.vn, h.mn, h.wrest, h.brest, by dsimp only; omega, h.cycle⟩
theorem tw_range {v : V} (h : Okv v) (i j : Int) : 0 ≤ tw v i j ∧ tw v i j < 65536 := by
 unfold tw
 have := h.wf.reg i
 have := h.wf.reg j
 unfold U8 at *
 omega
theorem stepV_ok {v : V} (h : Okv v) : Okv (stepV v) := by
 have ht := tw_range h 7 6
 unfold stepV
 split
 ·exact h
 split
 ·exact addB_ok h ht.1 ht.2
 ·exact turned_ok (addB_ok h ht.1 ht.2) _
theorem addB_reg (v : V) (n : Int) : (addB v n).reg = v.reg := by unfold addB; split <;> rfl
theorem stepV_reg (v : V) : (stepV v).reg = v.reg := by
 unfold stepV
 split
 ·rfl
 split
 ·exact addB_reg v _
 ·exact addB_reg v _
theorem tickV_ok {v : V} (h : Okv v) : Okv (tickV v) := by
 unfold tickV
 split
 ·exact h
 ·have hr := ans_range (tw v 3 2) v.counter v.mgain
  exact addW_ok h hr.1 hr.2
theorem clockV_ok {v : V} (h : Okv v) : Okv (clockV v) := by
 unfold clockV
 split
 ·exact cycV_ok (clk1_ok h)
 ·exact tickV_ok (stepV_ok (cycV_ok (clk1_ok h)))
set_option maxHeartbeats 4000000 in
theorem clock_calls (base : Nat) (g : Nat) (v : V) (W : World) (h : Is base W g v) (hv : Okv v) (hts : TS W) (hgb : 1 < base) :
  Calls Tryd.prog 44 #[.pointer (some ⟨g, 0, none⟩)] W fun e W' => e = .returned (.tuple #[]) ∧ Is base W' g (clockV v) ∧ Turn base W W' (One g) := by
 have H := Aside0.mk h
 have HU := Aside0.mk (cycV_ok (clk1_ok hv))
 have HV := Aside0.mk hv
 have HTS := Aside0.mk (fun (W1 : World) (hb : Below base W W1) => hts.below hb hgb)
 have HGB := Aside0.mk hgb
 have HCY := Aside0.mk hv.cycle
 have ECY := Aside0.mk (clk1_cycle v)
 have r3 := hv.wf.reg 3
 have r10 := hv.wf.reg 10
 have a192 := and192 _ r3.1 r3.2
 have c3 : W.cell? ⟨g, 131, none⟩ = some (.int .u8 (rd v.reg 3)) := h.reg_ 3 (by decide)
 by_cases h1 : rd v.reg 3 < 64
 ·have e64 : rd v.reg 3 / 64 * 64 = 0 := by have := r3.1; omega
  rw [e64] at a192
  have hu : clk1 v = clkM (clkV v (rd v.reg 10)) (rd v.reg 10) := if_pos h1
  have HC1 := Aside0.mk (clkV_calls base g v W.drew h.drew hv.wf.vreg hv.wf.vgain hv.vn (rd v.reg 10) r10)
  have HC2 := Aside0.mk (fun (W1 : World) (h1 : Is base W1 g (clkV v (rd v.reg 10))) => clkM_calls base g (clkV v (rd v.reg 10)) W1 h1 hv.wf.mreg hv.wf.mgain hv.mn (rd v.reg 10) r10)
  have c10 : W.drew.cell? ⟨g, 138, none⟩ = some (.int .u8 (rd v.reg 10)) := h.drew.reg_ 10 (by decide)
  have HUU := Aside0.mk hu
  clear h hv hts hgb h1 e64 r10 hu
  go_enter Tryd.func44, Tryd.ntmps44
  go_wp2
  refine start_ (n := 9) (S := fun w' => w'.cell? ⟨g, 138, none⟩ = some (.int .u8 (rd v.reg 10))) (ds := [8]) #[false, false, false, false, false, false, false, false, false] (by kernel_rfl) rfl rfl (c10) (fun hHeld => ?_)
  refine pure_ (i := 0) (N := some 11) (v := ?_) (a' := ?_) #[true, false, false, false, false, false, false, false, false] rfl rfl (by kernel_rfl) (fun _ _ _ h => h) (Or.inl ⟨by rfl, ?_⟩) ?_ ?_
  rotate_left
  ·intro w'
   go_simp
   with_reducible rfl
  rotate_left
  ·simp only [Act.put, List.setIfInBounds_toArray, List.set_cons_zero, List.set_cons_succ, i64_w, i32_w]
   rfl
  refine pure_ (i := 1) (N := some 12) (v := ?_) (a' := ?_) #[true, true, false, false, false, false, false, false, false] rfl rfl (by kernel_rfl) (fun _ _ _ h => h) (Or.inl ⟨by rfl, ?_⟩) ?_ ?_
  rotate_left
  ·intro w'
   go_simp
   with_reducible rfl
  rotate_left
  ·simp only [Act.put, List.setIfInBounds_toArray, List.set_cons_zero, List.set_cons_succ, i64_w, i32_w]
   rfl
  refine pure_ (i := 2) (N := some 13) (v := ?_) (a' := ?_) #[true, true, true, false, false, false, false, false, false] rfl rfl (by kernel_rfl) (fun _ _ _ h => h) (Or.inl ⟨by rfl, ?_⟩) ?_ ?_
  rotate_left
  ·intro w'
   go_simp
   with_reducible rfl
  rotate_left
  ·simp only [Act.put, List.setIfInBounds_toArray, List.set_cons_zero, List.set_cons_succ, i64_w, i32_w]
   rfl
  refine pure_ (i := 3) (N := some 14) (v := ?_) (a' := ?_) #[true, true, true, true, false, false, false, false, false] rfl rfl (by kernel_rfl) (fun _ _ _ h => h) (Or.inl ⟨by rfl, ?_⟩) ?_ ?_
  rotate_left
  ·intro w'
   go_simp
   with_reducible rfl
  rotate_left
  ·simp only [Act.put, List.setIfInBounds_toArray, List.set_cons_zero, List.set_cons_succ, i64_w, i32_w]
   rfl
  refine pure_ (i := 4) (N := some 15) (v := ?_) (a' := ?_) #[true, true, true, true, true, false, false, false, false] rfl rfl (by kernel_rfl) (fun _ _ _ h => h) (Or.inl ⟨by rfl, ?_⟩) ?_ ?_
  rotate_left
  ·intro w'
   go_simp
   with_reducible rfl
  rotate_left
  ·simp only [Act.put, List.setIfInBounds_toArray, List.set_cons_zero, List.set_cons_succ, i64_w, i32_w]
   rfl
  refine pure_ (i := 5) (N := some 16) (v := ?_) (a' := ?_) #[true, true, true, true, true, true, false, false, false] rfl rfl (by kernel_rfl) (fun _ _ _ h => h) (Or.inl ⟨by rfl, ?_⟩) ?_ ?_
  rotate_left
  ·intro w'
   go_simp
   with_reducible rfl
  rotate_left
  ·simp only [Act.put, List.setIfInBounds_toArray, List.set_cons_zero, List.set_cons_succ, i64_w, i32_w]
   rfl
  refine pure_ (i := 6) (N := some 17) (v := ?_) (a' := ?_) #[true, true, true, true, true, true, true, false, false] rfl rfl (by kernel_rfl) (fun _ _ _ h => h) (Or.inl ⟨by rfl, ?_⟩) ?_ ?_
  rotate_left
  ·intro w'
   go_simp
   with_reducible rfl
  rotate_left
  ·simp only [Act.put, List.setIfInBounds_toArray, List.set_cons_zero, List.set_cons_succ, i64_w, i32_w]
   rfl
  refine take_ (i := 7) (N := some 18) (v := ?_) (a' := ?_) #[true, true, true, true, true, true, true, true, false] rfl rfl (by kernel_rfl) (fun _ _ _ h => h) (Or.inl ⟨by rfl, ?_⟩) hHeld ?_ ?_
  rotate_left
  ·intro w' s0
   go_simp
   with_reducible rfl
  rotate_left
  ·simp only [Act.put, List.setIfInBounds_toArray, List.set_cons_zero, List.set_cons_succ, i64_w, i32_w]
   rfl
  refine last_ (i := 8) (N := some 19) #[true, true, true, true, true, true, true, true, true] rfl rfl (by kernel_rfl) (by decide) (fun K hK => ?_)
  refine goes_ Tryd.func78 (by kernel_rfl) rfl #[.pointer (some ⟨g, 139, none⟩), .int .u8 (rd v.reg 10)] (by rfl) rfl rfl (by simp only [List.map_toArray, List.map_cons, List.map_nil]; rfl) ?_
  with_reducible refine (HC1.out).mono ?_
  rintro e w6 ⟨rfl, hi, ht⟩
  refine ⟨_, rfl, ?_⟩
  have HI6 := Aside0.mk hi; have HT6 := Aside0.mk ht; clear hi ht
  refine hK.out _ _ ?_
  clear hK K
  refine norm_ (a' := ?_) ?_ ?_
  rotate_left
  ·show Act.put _ (some 19) _ = _
   simp only [Act.put, List.setIfInBounds_toArray, List.set_cons_zero, List.set_cons_succ, i64_w, i32_w]
   rfl
  refine done_ (by kernel_rfl) ?_
  have c11 : w6.drew.cell? ⟨g, 138, none⟩ = some (.int .u8 (rd v.reg 10)) := HI6.out.drew.reg_ 10 (by decide)
  go_wp2
  refine start_ (n := 9) (S := fun w' => w'.cell? ⟨g, 138, none⟩ = some (.int .u8 (rd v.reg 10))) (ds := [8]) #[false, false, false, false, false, false, false, false, false] (by kernel_rfl) rfl rfl (c11) (fun hHeld => ?_)
  refine pure_ (i := 0) (N := some 20) (v := ?_) (a' := ?_) #[true, false, false, false, false, false, false, false, false] rfl rfl (by kernel_rfl) (fun _ _ _ h => h) (Or.inl ⟨by rfl, ?_⟩) ?_ ?_
  rotate_left
  ·intro w'
   go_simp
   with_reducible rfl
  rotate_left
  ·simp only [Act.put, List.setIfInBounds_toArray, List.set_cons_zero, List.set_cons_succ, i64_w, i32_w]
   rfl
  refine pure_ (i := 1) (N := some 21) (v := ?_) (a' := ?_) #[true, true, false, false, false, false, false, false, false] rfl rfl (by kernel_rfl) (fun _ _ _ h => h) (Or.inl ⟨by rfl, ?_⟩) ?_ ?_
  rotate_left
  ·intro w'
   go_simp
   with_reducible rfl
  rotate_left
  ·simp only [Act.put, List.setIfInBounds_toArray, List.set_cons_zero, List.set_cons_succ, i64_w, i32_w]
   rfl
  refine pure_ (i := 2) (N := some 22) (v := ?_) (a' := ?_) #[true, true, true, false, false, false, false, false, false] rfl rfl (by kernel_rfl) (fun _ _ _ h => h) (Or.inl ⟨by rfl, ?_⟩) ?_ ?_
  rotate_left
  ·intro w'
   go_simp
   with_reducible rfl
  rotate_left
  ·simp only [Act.put, List.setIfInBounds_toArray, List.set_cons_zero, List.set_cons_succ, i64_w, i32_w]
   rfl
  refine pure_ (i := 3) (N := some 23) (v := ?_) (a' := ?_) #[true, true, true, true, false, false, false, false, false] rfl rfl (by kernel_rfl) (fun _ _ _ h => h) (Or.inl ⟨by rfl, ?_⟩) ?_ ?_
  rotate_left
  ·intro w'
   go_simp
   with_reducible rfl
  rotate_left
  ·simp only [Act.put, List.setIfInBounds_toArray, List.set_cons_zero, List.set_cons_succ, i64_w, i32_w]
   rfl
  refine pure_ (i := 4) (N := some 24) (v := ?_) (a' := ?_) #[true, true, true, true, true, false, false, false, false] rfl rfl (by kernel_rfl) (fun _ _ _ h => h) (Or.inl ⟨by rfl, ?_⟩) ?_ ?_
  rotate_left
  ·intro w'
   go_simp
   with_reducible rfl
  rotate_left
  ·simp only [Act.put, List.setIfInBounds_toArray, List.set_cons_zero, List.set_cons_succ, i64_w, i32_w]
   rfl
  refine pure_ (i := 5) (N := some 25) (v := ?_) (a' := ?_) #[true, true, true, true, true, true, false, false, false] rfl rfl (by kernel_rfl) (fun _ _ _ h => h) (Or.inl ⟨by rfl, ?_⟩) ?_ ?_
  rotate_left
  ·intro w'
   go_simp
   with_reducible rfl
  rotate_left
  ·simp only [Act.put, List.setIfInBounds_toArray, List.set_cons_zero, List.set_cons_succ, i64_w, i32_w]
   rfl
  refine pure_ (i := 6) (N := some 26) (v := ?_) (a' := ?_) #[true, true, true, true, true, true, true, false, false] rfl rfl (by kernel_rfl) (fun _ _ _ h => h) (Or.inl ⟨by rfl, ?_⟩) ?_ ?_
  rotate_left
  ·intro w'
   go_simp
   with_reducible rfl
  rotate_left
  ·simp only [Act.put, List.setIfInBounds_toArray, List.set_cons_zero, List.set_cons_succ, i64_w, i32_w]
   rfl
  refine take_ (i := 7) (N := some 27) (v := ?_) (a' := ?_) #[true, true, true, true, true, true, true, true, false] rfl rfl (by kernel_rfl) (fun _ _ _ h => h) (Or.inl ⟨by rfl, ?_⟩) hHeld ?_ ?_
  rotate_left
  ·intro w' s0
   go_simp
   with_reducible rfl
  rotate_left
  ·simp only [Act.put, List.setIfInBounds_toArray, List.set_cons_zero, List.set_cons_succ, i64_w, i32_w]
   rfl
  refine last_ (i := 8) (N := some 28) #[true, true, true, true, true, true, true, true, true] rfl rfl (by kernel_rfl) (by decide) (fun K hK => ?_)
  refine goes_ Tryd.func78 (by kernel_rfl) rfl #[.pointer (some ⟨g, 142, none⟩), .int .u8 (rd v.reg 10)] (by rfl) rfl rfl (by simp only [List.map_toArray, List.map_cons, List.map_nil]; rfl) ?_
  with_reducible refine (HC2.out _ HI6.out.drew).mono ?_
  rintro e w7 ⟨rfl, hi, ht⟩
  refine ⟨_, rfl, ?_⟩
  have HI7 := Aside0.mk (show Is base _ g (clk1 v) from HUU.out ▸ hi); have HT7 := Aside0.mk (((Turn.refl base W (One g)).drew.trans HT6.out).drew.trans ht); clear hi ht
  refine hK.out _ _ ?_
  clear hK K
  refine norm_ (a' := ?_) ?_ ?_
  rotate_left
  ·show Act.put _ (some 28) _ = _
   simp only [Act.put, List.setIfInBounds_toArray, List.set_cons_zero, List.set_cons_succ, i64_w, i32_w]
   rfl
  refine done_ (by kernel_rfl) ?_
  clear c10 c11 HC1 HC2 HI6 HT6 HUU
  have cc : w7.cell? ⟨g, 150, none⟩ = some (.int .i64 v.cycle) := by rw [← ECY.out]; exact HI7.out.tail_ 11
  have fc := HI7.out.frozen 150
  have HI2 := Aside0.mk (HI7.out.set_tail 11 (.int .i64 ((v.cycle + 1) % 16)) (v' := cycV (clk1 v)) rfl rfl rfl (by rw [← ECY.out]; rfl))
  have HT2 := Aside0.mk (HT7.out.set_ (i := 150) rfl HI7.out.base (.int .i64 ((v.cycle + 1) % 16)))
  have c5 : (w7.setCell ⟨g, 150, none⟩ (.int .i64 ((v.cycle + 1) % 16))).cell? ⟨g, 150, none⟩ = some (.int .i64 ((v.cycle + 1) % 16)) := by
   have h_ := HI2.out.tail_ 11
   rw [h_]
   show some (Value.int .i64 (((clk1 v).cycle + 1) % 16)) = _
   rw [ECY.out]
  have b5 := HCY.out
  have w5 : wrap64 (v.cycle + 1) = v.cycle + 1 := wr64 (by omega) (by omega)
  have m5 : (v.cycle + 1).tmod 16 = (v.cycle + 1) % 16 := Int.tmod_eq_emod_of_nonneg (by omega)
  have ec : (cycV (clk1 v)).cycle = (v.cycle + 1) % 16 := by show ((clk1 v).cycle + 1) % 16 = _; rw [ECY.out]
  clear b5
  by_cases h5 : 0 < (v.cycle + 1) % 16
  ·have ECK := Aside0.mk (show clockV v = cycV (clk1 v) from if_pos (by rw [ec]; exact h5))
   clear ec
   have d5 : decide (0 < (v.cycle + 1) % 16) = true := decide_eq_true h5
   clear h5
   generalize (v.cycle + 1) % 16 = cy at *
   generalize v.cycle = cz at *
   go_wp2
   first | go_end0 | ((try simp only [Exit.inBlock, Exit.then]); refine bodyPost_ret (results_none rfl _ _ _) rfl ?_)
   exact ⟨rfl, by rw [ECK.out]; exact HI2.out, HT2.out⟩
  ·have ECK := Aside0.mk (show clockV v = tickV (stepV (cycV (clk1 v))) from if_neg (by rw [ec]; exact h5))
   clear ec
   have d5 : decide (0 < (v.cycle + 1) % 16) = false := decide_eq_false h5
   clear h5
   have HS := Aside0.mk (step_calls base g (cycV (clk1 v)) _ HI2.out HU.out.wf HU.out.brest HU.out.counter (HTS.out _ HT2.out.below) HGB.out)
   have HV8 := Aside0.mk (stepV_ok HU.out)
   have e3 : rd (stepV (cycV (clk1 v))).reg 3 = rd v.reg 3 := by rw [stepV_reg]; exact congrArg (fun l => rd l 3) (clk1_reg v)
   generalize hs : stepV (cycV (clk1 v)) = s at *
   generalize (v.cycle + 1) % 16 = cy at *
   generalize v.cycle = cz at *
   go_wp2_with fail
   refine HS.out.mono ?_
   rintro e w8 ⟨rfl, hi, ht⟩
   have HI8 := Aside0.mk hi
   have HT8 := Aside0.mk (HT2.out.trans ht)
   have c7 : w8.cell? ⟨g, 131, none⟩ = some (.int .u8 (rd v.reg 3)) := by rw [← e3]; exact hi.reg_ 3 (by decide)
   have a128 := and128 _ r3.1 r3.2
   clear hi ht cc fc c5 HI2 HT2 HS
   by_cases h7 : 128 ≤ rd v.reg 3
   ·rw [if_pos h7] at a128
    have ETK := Aside0.mk (show tickV s = s from if_pos (by rw [e3]; exact h7))
    clear h7
    go_wp2
    first | go_end0 | ((try simp only [Exit.inBlock, Exit.then]); refine bodyPost_ret (results_none rfl _ _ _) rfl ?_)
    exact ⟨rfl, by rw [ECK.out, ETK.out]; exact HI8.out, HT8.out⟩
   ·rw [if_neg h7] at a128
    have ETK := Aside0.mk (show tickV s = addW s (ans (tw s 3 2) s.counter s.mgain) from if_neg (by rw [e3]; exact h7))
    have HTW := Aside0.mk (show Calls Tryd.prog 82 #[.pointer (some ⟨g, 0, none⟩), .int .i64 3, .int .i64 2] w8.drew fun e W' => e = .returned (.int .i64 (tw s 3 2)) ∧ ∃ n, W' = w8.drew.drewN n from twelve_calls base g s w8.drew HI8.out.drew 3 2 (.inl ⟨rfl, rfl⟩) (HV8.out.wf.reg 3) (HV8.out.wf.reg 2))
    have HPI := Aside0.mk (fun (W1 : World) => wave_Pitch.calls 6 (tw s 3 2) s.counter s.mgain _ W1 (pitch_eq 0 _ _ _))
    have hr := ans_range (tw s 3 2) s.counter s.mgain
    have HAD := Aside0.mk (fun (W1 : World) (h1 : Is base W1 g s) => addW_calls base g s W1 h1 HV8.out.wrest.1 HV8.out.wrest.2 HV8.out.wf.wat.1 HV8.out.wf.wat.2 (ans (tw s 3 2) s.counter s.mgain) hr.1 hr.2)
    have kC : w8.drew.cell? ⟨g, 145, none⟩ = some (.int .i64 s.counter) := HI8.out.drew.tail_ 6
    have kM : w8.drew.cell? ⟨g, 143, none⟩ = some (.int .u8 s.mgain) := HI8.out.drew.tail_ 4
    have wm : wrap64 s.mgain = s.mgain := wr64 (by have := HV8.out.wf.mgain; omega) (by have := HV8.out.wf.mgain; omega)
    have wm2 : IntKind.i64.wrap s.mgain = s.mgain := by have := HV8.out.wf.mgain; rw [IntKind.wrap_i64]; omega
    clear h7 hr
    generalize ans (tw s 3 2) s.counter s.mgain = an at *
    go_wp2
    refine start_ (n := 17) (S := fun w' => w'.cell? ⟨g, 145, none⟩ = some (.int .i64 s.counter) ∧ w'.cell? ⟨g, 143, none⟩ = some (.int .u8 s.mgain)) (ds := [16]) #[false, false, false, false, false, false, false, false, false, false, false, false, false, false, false, false, false] (by kernel_rfl) rfl rfl ⟨kC, kM⟩ (fun hHeld => ?_)
    refine pure_ (i := 0) (N := some 52) (v := ?_) (a' := ?_) #[true, false, false, false, false, false, false, false, false, false, false, false, false, false, false, false, false] rfl rfl (by kernel_rfl) (fun _ _ _ h => h) (Or.inl ⟨by rfl, ?_⟩) ?_ ?_
    rotate_left
    ·intro w'
     go_simp
     with_reducible rfl
    rotate_left
    ·simp only [Act.put, List.setIfInBounds_toArray, List.set_cons_zero, List.set_cons_succ, i64_w, i32_w]
     rfl
    refine pure_ (i := 1) (N := some 53) (v := ?_) (a' := ?_) #[true, true, false, false, false, false, false, false, false, false, false, false, false, false, false, false, false] rfl rfl (by kernel_rfl) (fun _ _ _ h => h) (Or.inl ⟨by rfl, ?_⟩) ?_ ?_
    rotate_left
    ·intro w'
     go_simp
     with_reducible rfl
    rotate_left
    ·simp only [Act.put, List.setIfInBounds_toArray, List.set_cons_zero, List.set_cons_succ, i64_w, i32_w]
     rfl
    refine pure_ (i := 2) (N := some 54) (v := ?_) (a' := ?_) #[true, true, true, false, false, false, false, false, false, false, false, false, false, false, false, false, false] rfl rfl (by kernel_rfl) (fun _ _ _ h => h) (Or.inl ⟨by rfl, ?_⟩) ?_ ?_
    rotate_left
    ·intro w'
     go_simp
     with_reducible rfl
    rotate_left
    ·simp only [Act.put, List.setIfInBounds_toArray, List.set_cons_zero, List.set_cons_succ, i64_w, i32_w]
     rfl
    refine pure_ (i := 3) (N := some 55) (v := ?_) (a' := ?_) #[true, true, true, true, false, false, false, false, false, false, false, false, false, false, false, false, false] rfl rfl (by kernel_rfl) (fun _ _ _ h => h) (Or.inl ⟨by rfl, ?_⟩) ?_ ?_
    rotate_left
    ·intro w'
     go_simp
     with_reducible rfl
    rotate_left
    ·simp only [Act.put, List.setIfInBounds_toArray, List.set_cons_zero, List.set_cons_succ, i64_w, i32_w]
     rfl
    refine pure_ (i := 5) (N := some 57) (v := ?_) (a' := ?_) #[true, true, true, true, false, true, false, false, false, false, false, false, false, false, false, false, false] rfl rfl (by kernel_rfl) (fun _ _ _ h => h) (Or.inl ⟨by rfl, ?_⟩) ?_ ?_
    rotate_left
    ·intro w'
     go_simp
     with_reducible rfl
    rotate_left
    ·simp only [Act.put, List.setIfInBounds_toArray, List.set_cons_zero, List.set_cons_succ, i64_w, i32_w]
     rfl
    refine pure_ (i := 6) (N := some 58) (v := ?_) (a' := ?_) #[true, true, true, true, false, true, true, false, false, false, false, false, false, false, false, false, false] rfl rfl (by kernel_rfl) (fun _ _ _ h => h) (Or.inl ⟨by rfl, ?_⟩) ?_ ?_
    rotate_left
    ·intro w'
     go_simp
     with_reducible rfl
    rotate_left
    ·simp only [Act.put, List.setIfInBounds_toArray, List.set_cons_zero, List.set_cons_succ, i64_w, i32_w]
     rfl
    refine pure_ (i := 7) (N := some 59) (v := ?_) (a' := ?_) #[true, true, true, true, false, true, true, true, false, false, false, false, false, false, false, false, false] rfl rfl (by kernel_rfl) (fun _ _ _ h => h) (Or.inl ⟨by rfl, ?_⟩) ?_ ?_
    rotate_left
    ·intro w'
     go_simp
     with_reducible rfl
    rotate_left
    ·simp only [Act.put, List.setIfInBounds_toArray, List.set_cons_zero, List.set_cons_succ, i64_w, i32_w]
     rfl
    refine pure_ (i := 9) (N := some 61) (v := ?_) (a' := ?_) #[true, true, true, true, false, true, true, true, false, true, false, false, false, false, false, false, false] rfl rfl (by kernel_rfl) (fun _ _ _ h => h) (Or.inl ⟨by rfl, ?_⟩) ?_ ?_
    rotate_left
    ·intro w'
     go_simp
     with_reducible rfl
    rotate_left
    ·simp only [Act.put, List.setIfInBounds_toArray, List.set_cons_zero, List.set_cons_succ, i64_w, i32_w]
     rfl
    refine pure_ (i := 10) (N := some 62) (v := ?_) (a' := ?_) #[true, true, true, true, false, true, true, true, false, true, true, false, false, false, false, false, false] rfl rfl (by kernel_rfl) (fun _ _ _ h => h) (Or.inl ⟨by rfl, ?_⟩) ?_ ?_
    rotate_left
    ·intro w'
     go_simp
     with_reducible rfl
    rotate_left
    ·simp only [Act.put, List.setIfInBounds_toArray, List.set_cons_zero, List.set_cons_succ, i64_w, i32_w]
     rfl
    refine pure_ (i := 11) (N := some 63) (v := ?_) (a' := ?_) #[true, true, true, true, false, true, true, true, false, true, true, true, false, false, false, false, false] rfl rfl (by kernel_rfl) (fun _ _ _ h => h) (Or.inl ⟨by rfl, ?_⟩) ?_ ?_
    rotate_left
    ·intro w'
     go_simp
     with_reducible rfl
    rotate_left
    ·simp only [Act.put, List.setIfInBounds_toArray, List.set_cons_zero, List.set_cons_succ, i64_w, i32_w]
     rfl
    refine pure_ (i := 12) (N := some 64) (v := ?_) (a' := ?_) #[true, true, true, true, false, true, true, true, false, true, true, true, true, false, false, false, false] rfl rfl (by kernel_rfl) (fun _ _ _ h => h) (Or.inl ⟨by rfl, ?_⟩) ?_ ?_
    rotate_left
    ·intro w'
     go_simp
     with_reducible rfl
    rotate_left
    ·simp only [Act.put, List.setIfInBounds_toArray, List.set_cons_zero, List.set_cons_succ, i64_w, i32_w]
     rfl
    refine take_ (i := 8) (N := some 60) (v := ?_) (a' := ?_) #[true, true, true, true, false, true, true, true, true, true, true, true, true, false, false, false, false] rfl rfl (by kernel_rfl) (fun _ _ _ h => h) (Or.inl ⟨by rfl, ?_⟩) hHeld ?_ ?_
    rotate_left
    ·rintro w' ⟨s0, s1⟩
     go_simp
     with_reducible rfl
    rotate_left
    ·simp only [Act.put, List.setIfInBounds_toArray, List.set_cons_zero, List.set_cons_succ, i64_w, i32_w]
     rfl
    refine take_ (i := 13) (N := some 65) (v := ?_) (a' := ?_) #[true, true, true, true, false, true, true, true, true, true, true, true, true, true, false, false, false] rfl rfl (by kernel_rfl) (fun _ _ _ h => h) (Or.inl ⟨by rfl, ?_⟩) hHeld ?_ ?_
    rotate_left
    ·rintro w' ⟨s0, s1⟩
     go_simp
     with_reducible rfl
    rotate_left
    ·simp only [Act.put, List.setIfInBounds_toArray, List.set_cons_zero, List.set_cons_succ, i64_w, i32_w]
     rfl
    refine pure_ (i := 14) (N := some 66) (v := ?_) (a' := ?_) #[true, true, true, true, false, true, true, true, true, true, true, true, true, true, true, false, false] rfl rfl (by kernel_rfl) (fun _ _ _ h => h) (Or.inl ⟨by rfl, ?_⟩) ?_ ?_
    rotate_left
    ·intro w'
     go_simp
     with_reducible rfl
    rotate_left
    ·simp only [Act.put, List.setIfInBounds_toArray, List.set_cons_zero, List.set_cons_succ, i64_w, i32_w]
     rfl
    refine one_ (i := 4) (N := some 56) #[true, true, true, true, true, true, true, true, true, true, true, true, true, true, true, false, false] rfl rfl (by kernel_rfl) (by decide) (fun K hK => ?_)
    refine goes_ Tryd.func82 (by kernel_rfl) rfl #[.pointer (some ⟨g, 0, none⟩), .int .i64 3, .int .i64 2] (by rfl) rfl rfl (by simp only [List.map_toArray, List.map_cons, List.map_nil]; rfl) ?_
    with_reducible refine (HTW.out).mono ?_
    rintro e w11 ⟨rfl, n11, rfl⟩
    refine ⟨_, rfl, ?_⟩
    refine hK.out _ _ ⟨kC, kM⟩ (fun hHeld => ?_)
    clear hK K
    refine norm_ (a' := ?_) ?_ ?_
    rotate_left
    ·show Act.put _ (some 56) _ = _
     simp only [Act.put, List.setIfInBounds_toArray, List.set_cons_zero, List.set_cons_succ, i64_w, i32_w]
     rfl
    refine one_ (i := 15) (N := some 67) #[true, true, true, true, true, true, true, true, true, true, true, true, true, true, true, true, false] rfl rfl (by kernel_rfl) (by decide) (fun K hK => ?_)
    refine goes_ Tryd.func81 (by kernel_rfl) rfl #[.int .i64 (tw s 3 2), .int .i64 s.counter, .int .i64 s.mgain] (by rfl) rfl rfl (by simp only [List.map_toArray, List.map_cons, List.map_nil]; rfl) ?_
    with_reducible refine (HPI.out _).mono ?_
    rintro e w12 ⟨rfl, ⟨n12, rfl⟩⟩
    refine ⟨_, rfl, ?_⟩
    refine hK.out _ _ ⟨kC, kM⟩ (fun hHeld => ?_)
    clear hK K
    refine norm_ (a' := ?_) ?_ ?_
    rotate_left
    ·show Act.put _ (some 67) _ = _
     simp only [Act.put, List.setIfInBounds_toArray, List.set_cons_zero, List.set_cons_succ, i64_w, i32_w]
     rfl
    refine last_ (i := 16) (N := some 68) #[true, true, true, true, true, true, true, true, true, true, true, true, true, true, true, true, true] rfl rfl (by kernel_rfl) (by decide) (fun K hK => ?_)
    refine goes_ Tryd.func80 (by kernel_rfl) rfl #[.pointer (some ⟨g, 146, none⟩), .int .i64 an] (by rfl) rfl rfl (by simp only [List.map_toArray, List.map_cons, List.map_nil]; rfl) ?_
    with_reducible refine (HAD.out _ ((HI8.out.drew.drewN n11).drewN n12)).mono ?_
    rintro e w13 ⟨rfl, hi, ht⟩
    refine ⟨_, rfl, ?_⟩
    have HI13 := Aside0.mk hi; have HT13 := Aside0.mk ht; clear hi ht
    refine hK.out _ _ ?_
    clear hK K
    refine norm_ (a' := ?_) ?_ ?_
    rotate_left
    ·show Act.put _ (some 68) _ = _
     simp only [Act.put, List.setIfInBounds_toArray, List.set_cons_zero, List.set_cons_succ, i64_w, i32_w]
     rfl
    refine done_ (by kernel_rfl) ?_
    go_wp2
    first | go_end0 | ((try simp only [Exit.inBlock, Exit.then]); refine bodyPost_ret (results_none rfl _ _ _) rfl ?_)
    exact ⟨rfl, by rw [ECK.out, ETK.out]; exact HI13.out, ((HT8.out.drew.drewN n11).drewN n12).trans HT13.out⟩
 ·have e64 : ((rd v.reg 3 / 64 * 64 : Int) == 0) = false := by
   rw [beq_eq_false_iff_ne]; omega
  have hu : clk1 v = v := if_neg h1
  have HI7 := Aside0.mk (show Is base W g (clk1 v) from by rw [hu]; exact h)
  have HT7 := Aside0.mk (Turn.refl base W (One g))
  clear h hv hts hgb h1 r10 hu
  generalize rd v.reg 3 / 64 * 64 = z3 at *
  go_enter Tryd.func44, Tryd.ntmps44
  have cc : W.cell? ⟨g, 150, none⟩ = some (.int .i64 v.cycle) := by rw [← ECY.out]; exact HI7.out.tail_ 11
  have fc := HI7.out.frozen 150
  have HI2 := Aside0.mk (HI7.out.set_tail 11 (.int .i64 ((v.cycle + 1) % 16)) (v' := cycV (clk1 v)) rfl rfl rfl (by rw [← ECY.out]; rfl))
  have HT2 := Aside0.mk (HT7.out.set_ (i := 150) rfl HI7.out.base (.int .i64 ((v.cycle + 1) % 16)))
  have c5 : (W.setCell ⟨g, 150, none⟩ (.int .i64 ((v.cycle + 1) % 16))).cell? ⟨g, 150, none⟩ = some (.int .i64 ((v.cycle + 1) % 16)) := by
   have h_ := HI2.out.tail_ 11
   rw [h_]
   show some (Value.int .i64 (((clk1 v).cycle + 1) % 16)) = _
   rw [ECY.out]
  have b5 := HCY.out
  have w5 : wrap64 (v.cycle + 1) = v.cycle + 1 := wr64 (by omega) (by omega)
  have m5 : (v.cycle + 1).tmod 16 = (v.cycle + 1) % 16 := Int.tmod_eq_emod_of_nonneg (by omega)
  have ec : (cycV (clk1 v)).cycle = (v.cycle + 1) % 16 := by show ((clk1 v).cycle + 1) % 16 = _; rw [ECY.out]
  clear b5
  by_cases h5 : 0 < (v.cycle + 1) % 16
  ·have ECK := Aside0.mk (show clockV v = cycV (clk1 v) from if_pos (by rw [ec]; exact h5))
   clear ec
   have d5 : decide (0 < (v.cycle + 1) % 16) = true := decide_eq_true h5
   clear h5
   generalize (v.cycle + 1) % 16 = cy at *
   generalize v.cycle = cz at *
   go_wp2
   first | go_end0 | ((try simp only [Exit.inBlock, Exit.then]); refine bodyPost_ret (results_none rfl _ _ _) rfl ?_)
   exact ⟨rfl, by rw [ECK.out]; exact HI2.out, HT2.out⟩
  ·have ECK := Aside0.mk (show clockV v = tickV (stepV (cycV (clk1 v))) from if_neg (by rw [ec]; exact h5))
   clear ec
   have d5 : decide (0 < (v.cycle + 1) % 16) = false := decide_eq_false h5
   clear h5
   have HS := Aside0.mk (step_calls base g (cycV (clk1 v)) _ HI2.out HU.out.wf HU.out.brest HU.out.counter (HTS.out _ HT2.out.below) HGB.out)
   have HV8 := Aside0.mk (stepV_ok HU.out)
   have e3 : rd (stepV (cycV (clk1 v))).reg 3 = rd v.reg 3 := by rw [stepV_reg]; exact congrArg (fun l => rd l 3) (clk1_reg v)
   generalize hs : stepV (cycV (clk1 v)) = s at *
   generalize (v.cycle + 1) % 16 = cy at *
   generalize v.cycle = cz at *
   go_wp2_with fail
   refine HS.out.mono ?_
   rintro e w8 ⟨rfl, hi, ht⟩
   have HI8 := Aside0.mk hi
   have HT8 := Aside0.mk (HT2.out.trans ht)
   have c7 : w8.cell? ⟨g, 131, none⟩ = some (.int .u8 (rd v.reg 3)) := by rw [← e3]; exact hi.reg_ 3 (by decide)
   have a128 := and128 _ r3.1 r3.2
   clear hi ht cc fc c5 HI2 HT2 HS
   by_cases h7 : 128 ≤ rd v.reg 3
   ·rw [if_pos h7] at a128
    have ETK := Aside0.mk (show tickV s = s from if_pos (by rw [e3]; exact h7))
    clear h7
    go_wp2
    first | go_end0 | ((try simp only [Exit.inBlock, Exit.then]); refine bodyPost_ret (results_none rfl _ _ _) rfl ?_)
    exact ⟨rfl, by rw [ECK.out, ETK.out]; exact HI8.out, HT8.out⟩
   ·rw [if_neg h7] at a128
    have ETK := Aside0.mk (show tickV s = addW s (ans (tw s 3 2) s.counter s.mgain) from if_neg (by rw [e3]; exact h7))
    have HTW := Aside0.mk (show Calls Tryd.prog 82 #[.pointer (some ⟨g, 0, none⟩), .int .i64 3, .int .i64 2] w8.drew fun e W' => e = .returned (.int .i64 (tw s 3 2)) ∧ ∃ n, W' = w8.drew.drewN n from twelve_calls base g s w8.drew HI8.out.drew 3 2 (.inl ⟨rfl, rfl⟩) (HV8.out.wf.reg 3) (HV8.out.wf.reg 2))
    have HPI := Aside0.mk (fun (W1 : World) => wave_Pitch.calls 6 (tw s 3 2) s.counter s.mgain _ W1 (pitch_eq 0 _ _ _))
    have hr := ans_range (tw s 3 2) s.counter s.mgain
    have HAD := Aside0.mk (fun (W1 : World) (h1 : Is base W1 g s) => addW_calls base g s W1 h1 HV8.out.wrest.1 HV8.out.wrest.2 HV8.out.wf.wat.1 HV8.out.wf.wat.2 (ans (tw s 3 2) s.counter s.mgain) hr.1 hr.2)
    have kC : w8.drew.cell? ⟨g, 145, none⟩ = some (.int .i64 s.counter) := HI8.out.drew.tail_ 6
    have kM : w8.drew.cell? ⟨g, 143, none⟩ = some (.int .u8 s.mgain) := HI8.out.drew.tail_ 4
    have wm : wrap64 s.mgain = s.mgain := wr64 (by have := HV8.out.wf.mgain; omega) (by have := HV8.out.wf.mgain; omega)
    have wm2 : IntKind.i64.wrap s.mgain = s.mgain := by have := HV8.out.wf.mgain; rw [IntKind.wrap_i64]; omega
    clear h7 hr
    generalize ans (tw s 3 2) s.counter s.mgain = an at *
    go_wp2
    refine start_ (n := 17) (S := fun w' => w'.cell? ⟨g, 145, none⟩ = some (.int .i64 s.counter) ∧ w'.cell? ⟨g, 143, none⟩ = some (.int .u8 s.mgain)) (ds := [16]) #[false, false, false, false, false, false, false, false, false, false, false, false, false, false, false, false, false] (by kernel_rfl) rfl rfl ⟨kC, kM⟩ (fun hHeld => ?_)
    refine pure_ (i := 0) (N := some 52) (v := ?_) (a' := ?_) #[true, false, false, false, false, false, false, false, false, false, false, false, false, false, false, false, false] rfl rfl (by kernel_rfl) (fun _ _ _ h => h) (Or.inl ⟨by rfl, ?_⟩) ?_ ?_
    rotate_left
    ·intro w'
     go_simp
     with_reducible rfl
    rotate_left
    ·simp only [Act.put, List.setIfInBounds_toArray, List.set_cons_zero, List.set_cons_succ, i64_w, i32_w]
     rfl
    refine pure_ (i := 1) (N := some 53) (v := ?_) (a' := ?_) #[true, true, false, false, false, false, false, false, false, false, false, false, false, false, false, false, false] rfl rfl (by kernel_rfl) (fun _ _ _ h => h) (Or.inl ⟨by rfl, ?_⟩) ?_ ?_
    rotate_left
    ·intro w'
     go_simp
     with_reducible rfl
    rotate_left
    ·simp only [Act.put, List.setIfInBounds_toArray, List.set_cons_zero, List.set_cons_succ, i64_w, i32_w]
     rfl
    refine pure_ (i := 2) (N := some 54) (v := ?_) (a' := ?_) #[true, true, true, false, false, false, false, false, false, false, false, false, false, false, false, false, false] rfl rfl (by kernel_rfl) (fun _ _ _ h => h) (Or.inl ⟨by rfl, ?_⟩) ?_ ?_
    rotate_left
    ·intro w'
     go_simp
     with_reducible rfl
    rotate_left
    ·simp only [Act.put, List.setIfInBounds_toArray, List.set_cons_zero, List.set_cons_succ, i64_w, i32_w]
     rfl
    refine pure_ (i := 3) (N := some 55) (v := ?_) (a' := ?_) #[true, true, true, true, false, false, false, false, false, false, false, false, false, false, false, false, false] rfl rfl (by kernel_rfl) (fun _ _ _ h => h) (Or.inl ⟨by rfl, ?_⟩) ?_ ?_
    rotate_left
    ·intro w'
     go_simp
     with_reducible rfl
    rotate_left
    ·simp only [Act.put, List.setIfInBounds_toArray, List.set_cons_zero, List.set_cons_succ, i64_w, i32_w]
     rfl
    refine pure_ (i := 5) (N := some 57) (v := ?_) (a' := ?_) #[true, true, true, true, false, true, false, false, false, false, false, false, false, false, false, false, false] rfl rfl (by kernel_rfl) (fun _ _ _ h => h) (Or.inl ⟨by rfl, ?_⟩) ?_ ?_
    rotate_left
    ·intro w'
     go_simp
     with_reducible rfl
    rotate_left
    ·simp only [Act.put, List.setIfInBounds_toArray, List.set_cons_zero, List.set_cons_succ, i64_w, i32_w]
     rfl
    refine pure_ (i := 6) (N := some 58) (v := ?_) (a' := ?_) #[true, true, true, true, false, true, true, false, false, false, false, false, false, false, false, false, false] rfl rfl (by kernel_rfl) (fun _ _ _ h => h) (Or.inl ⟨by rfl, ?_⟩) ?_ ?_
    rotate_left
    ·intro w'
     go_simp
     with_reducible rfl
    rotate_left
    ·simp only [Act.put, List.setIfInBounds_toArray, List.set_cons_zero, List.set_cons_succ, i64_w, i32_w]
     rfl
    refine pure_ (i := 7) (N := some 59) (v := ?_) (a' := ?_) #[true, true, true, true, false, true, true, true, false, false, false, false, false, false, false, false, false] rfl rfl (by kernel_rfl) (fun _ _ _ h => h) (Or.inl ⟨by rfl, ?_⟩) ?_ ?_
    rotate_left
    ·intro w'
     go_simp
     with_reducible rfl
    rotate_left
    ·simp only [Act.put, List.setIfInBounds_toArray, List.set_cons_zero, List.set_cons_succ, i64_w, i32_w]
     rfl
    refine pure_ (i := 9) (N := some 61) (v := ?_) (a' := ?_) #[true, true, true, true, false, true, true, true, false, true, false, false, false, false, false, false, false] rfl rfl (by kernel_rfl) (fun _ _ _ h => h) (Or.inl ⟨by rfl, ?_⟩) ?_ ?_
    rotate_left
    ·intro w'
     go_simp
     with_reducible rfl
    rotate_left
    ·simp only [Act.put, List.setIfInBounds_toArray, List.set_cons_zero, List.set_cons_succ, i64_w, i32_w]
     rfl
    refine pure_ (i := 10) (N := some 62) (v := ?_) (a' := ?_) #[true, true, true, true, false, true, true, true, false, true, true, false, false, false, false, false, false] rfl rfl (by kernel_rfl) (fun _ _ _ h => h) (Or.inl ⟨by rfl, ?_⟩) ?_ ?_
    rotate_left
    ·intro w'
     go_simp
     with_reducible rfl
    rotate_left
    ·simp only [Act.put, List.setIfInBounds_toArray, List.set_cons_zero, List.set_cons_succ, i64_w, i32_w]
     rfl
    refine pure_ (i := 11) (N := some 63) (v := ?_) (a' := ?_) #[true, true, true, true, false, true, true, true, false, true, true, true, false, false, false, false, false] rfl rfl (by kernel_rfl) (fun _ _ _ h => h) (Or.inl ⟨by rfl, ?_⟩) ?_ ?_
    rotate_left
    ·intro w'
     go_simp
     with_reducible rfl
    rotate_left
    ·simp only [Act.put, List.setIfInBounds_toArray, List.set_cons_zero, List.set_cons_succ, i64_w, i32_w]
     rfl
    refine pure_ (i := 12) (N := some 64) (v := ?_) (a' := ?_) #[true, true, true, true, false, true, true, true, false, true, true, true, true, false, false, false, false] rfl rfl (by kernel_rfl) (fun _ _ _ h => h) (Or.inl ⟨by rfl, ?_⟩) ?_ ?_
    rotate_left
    ·intro w'
     go_simp
     with_reducible rfl
    rotate_left
    ·simp only [Act.put, List.setIfInBounds_toArray, List.set_cons_zero, List.set_cons_succ, i64_w, i32_w]
     rfl
    refine take_ (i := 8) (N := some 60) (v := ?_) (a' := ?_) #[true, true, true, true, false, true, true, true, true, true, true, true, true, false, false, false, false] rfl rfl (by kernel_rfl) (fun _ _ _ h => h) (Or.inl ⟨by rfl, ?_⟩) hHeld ?_ ?_
    rotate_left
    ·rintro w' ⟨s0, s1⟩
     go_simp
     with_reducible rfl
    rotate_left
    ·simp only [Act.put, List.setIfInBounds_toArray, List.set_cons_zero, List.set_cons_succ, i64_w, i32_w]
     rfl
    refine take_ (i := 13) (N := some 65) (v := ?_) (a' := ?_) #[true, true, true, true, false, true, true, true, true, true, true, true, true, true, false, false, false] rfl rfl (by kernel_rfl) (fun _ _ _ h => h) (Or.inl ⟨by rfl, ?_⟩) hHeld ?_ ?_
    rotate_left
    ·rintro w' ⟨s0, s1⟩
     go_simp
     with_reducible rfl
    rotate_left
    ·simp only [Act.put, List.setIfInBounds_toArray, List.set_cons_zero, List.set_cons_succ, i64_w, i32_w]
     rfl
    refine pure_ (i := 14) (N := some 66) (v := ?_) (a' := ?_) #[true, true, true, true, false, true, true, true, true, true, true, true, true, true, true, false, false] rfl rfl (by kernel_rfl) (fun _ _ _ h => h) (Or.inl ⟨by rfl, ?_⟩) ?_ ?_
    rotate_left
    ·intro w'
     go_simp
     with_reducible rfl
    rotate_left
    ·simp only [Act.put, List.setIfInBounds_toArray, List.set_cons_zero, List.set_cons_succ, i64_w, i32_w]
     rfl
    refine one_ (i := 4) (N := some 56) #[true, true, true, true, true, true, true, true, true, true, true, true, true, true, true, false, false] rfl rfl (by kernel_rfl) (by decide) (fun K hK => ?_)
    refine goes_ Tryd.func82 (by kernel_rfl) rfl #[.pointer (some ⟨g, 0, none⟩), .int .i64 3, .int .i64 2] (by rfl) rfl rfl (by simp only [List.map_toArray, List.map_cons, List.map_nil]; rfl) ?_
    with_reducible refine (HTW.out).mono ?_
    rintro e w11 ⟨rfl, n11, rfl⟩
    refine ⟨_, rfl, ?_⟩
    refine hK.out _ _ ⟨kC, kM⟩ (fun hHeld => ?_)
    clear hK K
    refine norm_ (a' := ?_) ?_ ?_
    rotate_left
    ·show Act.put _ (some 56) _ = _
     simp only [Act.put, List.setIfInBounds_toArray, List.set_cons_zero, List.set_cons_succ, i64_w, i32_w]
     rfl
    refine one_ (i := 15) (N := some 67) #[true, true, true, true, true, true, true, true, true, true, true, true, true, true, true, true, false] rfl rfl (by kernel_rfl) (by decide) (fun K hK => ?_)
    refine goes_ Tryd.func81 (by kernel_rfl) rfl #[.int .i64 (tw s 3 2), .int .i64 s.counter, .int .i64 s.mgain] (by rfl) rfl rfl (by simp only [List.map_toArray, List.map_cons, List.map_nil]; rfl) ?_
    with_reducible refine (HPI.out _).mono ?_
    rintro e w12 ⟨rfl, ⟨n12, rfl⟩⟩
    refine ⟨_, rfl, ?_⟩
    refine hK.out _ _ ⟨kC, kM⟩ (fun hHeld => ?_)
    clear hK K
    refine norm_ (a' := ?_) ?_ ?_
    rotate_left
    ·show Act.put _ (some 67) _ = _
     simp only [Act.put, List.setIfInBounds_toArray, List.set_cons_zero, List.set_cons_succ, i64_w, i32_w]
     rfl
    refine last_ (i := 16) (N := some 68) #[true, true, true, true, true, true, true, true, true, true, true, true, true, true, true, true, true] rfl rfl (by kernel_rfl) (by decide) (fun K hK => ?_)
    refine goes_ Tryd.func80 (by kernel_rfl) rfl #[.pointer (some ⟨g, 146, none⟩), .int .i64 an] (by rfl) rfl rfl (by simp only [List.map_toArray, List.map_cons, List.map_nil]; rfl) ?_
    with_reducible refine (HAD.out _ ((HI8.out.drew.drewN n11).drewN n12)).mono ?_
    rintro e w13 ⟨rfl, hi, ht⟩
    refine ⟨_, rfl, ?_⟩
    have HI13 := Aside0.mk hi; have HT13 := Aside0.mk ht; clear hi ht
    refine hK.out _ _ ?_
    clear hK K
    refine norm_ (a' := ?_) ?_ ?_
    rotate_left
    ·show Act.put _ (some 68) _ = _
     simp only [Act.put, List.setIfInBounds_toArray, List.set_cons_zero, List.set_cons_succ, i64_w, i32_w]
     rfl
    refine done_ (by kernel_rfl) ?_
    go_wp2
    first | go_end0 | ((try simp only [Exit.inBlock, Exit.then]); refine bodyPost_ret (results_none rfl _ _ _) rfl ?_)
    exact ⟨rfl, by rw [ECK.out, ETK.out]; exact HI13.out, ((HT8.out.drew.drewN n11).drewN n12).trans HT13.out⟩
end Go.Proofs.YtaiaapjlpbhlbaaDoor.Wave
