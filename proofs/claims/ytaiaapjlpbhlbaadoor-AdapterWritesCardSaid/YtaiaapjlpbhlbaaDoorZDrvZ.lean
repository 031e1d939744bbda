/-
 THE DRIVE's METHODS, the rest: Copy, Last, of a nil drive. By the prover of this repo.
 A RUNNING DRIVE, cycle by cycle; the chapter's example (awake). By the prover of this repo.
 LAY: the byte that passed, laid. By the prover of this repo.
-/
import Derived.Test.YtaiaapjlpbhlbaaDoorZDrv
namespace Go.Proofs.YtaiaapjlpbhlbaaDoor.Drive
open Go.RowKit Go.Proofs.YtaiaapjlpbhlbaaDoorW.PrintWords Go.Proofs.YtaiaapjlpbhlbaaDoorW.PrintLast Go.Proofs.YtaiaapjlpbhlbaaDoorW.PrintMore
set_option linter.unusedVariables false
set_option linter.unusedSimpArgs false

theorem copy_calls (base : Nat) (g : Nat) (v : Value) (d : Drv.D) (W : World) (h : Is base W g v d) (hbase : base ≤ W.heap.size) :
  Calls Tryd.prog 69 #[.pointer (some ⟨g, 0, none⟩)] W fun e W' => ∃ g1 v1, e = .returned (.pointer (some ⟨g1, 0, none⟩)) ∧ Is base W' g1 v1 d ∧ Below W.heap.size W W' ∧ W.heap.size ≤ g1 ∧ (∀ k, v1.ownBlock = some k → W.heap.size ≤ k) := by
 have H := Aside0.mk h
 have k0 := h.c0
 have k1 := h.c1
 have k2 := h.c2
 have k3 := h.c3
 have k4 := h.c4
 have k5 := h.c5
 have k6 := h.c6
 have k7 := h.c7
 have k8 := h.c8
 have k9 := h.c9
 obtain ⟨A, c, hv, hc, hC⟩ := h.slice
 subst hv
 have kA : ∀ o, (W.alloc o).cell? ⟨g, 0, none⟩ = some (.slice A d.side.length c) := fun o => (World.cell?_alloc_lt W o ⟨g, 0, none⟩ h.1.lt).trans k0
 have HC := Aside0.mk hC
 have HL := Aside0.mk hc
 have HX := Aside0.mk (show bytes_Clone.f d.side = some d.side by unfold bytes_Clone.f; rw [if_pos (by have := h.2.2.2; omega)])
 have HBA := Aside0.mk hbase
 have HG := Aside0.mk h.1.lt
 clear h hc hC hbase
 go_enter Tryd.func69, Tryd.ntmps69
 go_wp2_with fail
 refine (bytes_Clone.calls A c d.side d.side _ (Kd.C_alloc HC.out _) HL.out HX.out).mono ?_
 rintro e w1 ⟨v1, rfl, ho, hb⟩
 have HO := Aside0.mk ho
 have HB := Aside0.mk (below_step (below_alloc (Below.refl _ _) _) hb)
 have HA := Aside0.mk (At.below (t := 98) (cs := cells (.slice A d.side.length c) d) (heap_alloc_new W _) hb)
 have m0 : w1.cell? ⟨W.heap.size, 0, none⟩ = some (.slice A d.side.length c) := HA.out.cell 0
 have m1 := HA.out.frozen 0
 have HS := Aside0.mk (below_size (below_alloc (Below.refl W.heap.size W) (.cells (cells (.slice A d.side.length c) d) 98)))
 have HI := Aside0.mk (store0 HA.out HBA.out (d' := d) (Kd.R_lower HO.out (Nat.le_trans HBA.out HS.out)) H.out.2.2.2 rfl)
 obtain ⟨A1, c1, ev⟩ := Kd.R_slice HO.out
 subst ev
 clear ho hb
 go_wp2
 go_ret
 exact ⟨_, _, rfl, HI.out, HB.out.setCell (Nat.le_refl _) _, Nat.le_refl _, fun k hk => Nat.le_trans HS.out (Kd.R_base HO.out k hk)⟩
/-! ### a nil drive -/
theorem nil_insert (A : Option Addr) (n c : Nat) (W : World) : Calls Tryd.prog 21 #[.pointer none, .slice A n c] W fun e W' => e = .returned (.bool false) ∧ W = W' := by
 go_enter Tryd.func21, Tryd.ntmps21
 go_wp2
 go_ret
 exact ⟨rfl, rfl⟩
theorem nil_eject (W : World) : Calls Tryd.prog 24 #[.pointer none] W fun e W' => e = .returned (.slice none 0 0) ∧ W = W' := by
 go_enter Tryd.func24, Tryd.ntmps24
 go_wp2
 go_ret
 exact ⟨rfl, rfl⟩
theorem nil_has (W : World) : Calls Tryd.prog 33 #[.pointer none] W fun e W' => e = .returned (.bool false) ∧ W = W' := by
 go_enter Tryd.func33, Tryd.ntmps33
 go_wp2
 go_ret
 exact ⟨rfl, rfl⟩
theorem nil_motor (on : Bool) (W : World) : Calls Tryd.prog 96 #[.pointer none, .bool on] W fun e W' => e = .returned (.tuple #[]) ∧ W = W' := by
 go_enter Tryd.func96, Tryd.ntmps96
 go_wp2
 go_end0
 exact ⟨rfl, rfl⟩
theorem nil_clock (W : World) : Calls Tryd.prog 46 #[.pointer none] W fun e W' => e = .returned (.bool false) ∧ W = W' := by
 go_enter Tryd.func46, Tryd.ntmps46
 go_wp2
 go_ret
 exact ⟨rfl, rfl⟩
theorem nil_ready (W : World) : Calls Tryd.prog 52 #[.pointer none] W fun e W' => e = .returned (.bool false) ∧ W = W' := by
 go_enter Tryd.func52, Tryd.ntmps52
 go_wp2
 go_ret
 exact ⟨rfl, rfl⟩
theorem nil_get (W : World) : Calls Tryd.prog 48 #[.pointer none] W fun e W' => e = .returned (.int .u8 0) ∧ W = W' := by
 go_enter Tryd.func48, Tryd.ntmps48
 go_wp2
 go_ret
 exact ⟨rfl, rfl⟩
theorem nil_lay (b : Int) (W : World) : Calls Tryd.prog 49 #[.pointer none, .int .u8 b] W fun e W' => e = .returned (.bool false) ∧ W = W' := by
 go_enter Tryd.func49, Tryd.ntmps49
 go_wp2
 go_ret
 exact ⟨rfl, rfl⟩
theorem nil_side (W : World) : Calls Tryd.prog 34 #[.pointer none] W fun e W' => e = .returned (.slice none 0 0) ∧ W = W' := by
 go_enter Tryd.func34, Tryd.ntmps34
 go_wp2
 go_ret
 exact ⟨rfl, rfl⟩
theorem nil_copy (W : World) : Calls Tryd.prog 69 #[.pointer none] W fun e W' => e = .returned (.pointer none) ∧ W = W' := by
 go_enter Tryd.func69, Tryd.ntmps69
 go_wp2
 go_ret
 exact ⟨rfl, rfl⟩
theorem nil_at (W : World) : Calls Tryd.prog 38 #[.pointer none] W fun e W' => e = .returned (.int .i64 0) ∧ W = W' := by
 go_enter Tryd.func38, Tryd.ntmps38
 go_wp2_with (go_at_call 52; refine (nil_ready _).mono ?_; rintro e W' ⟨rfl, rfl⟩)
 go_ret
 exact ⟨rfl, rfl⟩
end Go.Proofs.YtaiaapjlpbhlbaaDoor.Drive

namespace Go.Proofs.YtaiaapjlpbhlbaaDoor.Drive
open Go.RowKit Go.Proofs.YtaiaapjlpbhlbaaDoorW.PrintWords Go.Proofs.YtaiaapjlpbhlbaaDoorW.PrintLast Go.Proofs.YtaiaapjlpbhlbaaDoorW.PrintMore
set_option linter.unusedVariables false
set_option linter.unusedSimpArgs false

/-- with the motor on, over the side p, t cycles behind its going back -/
def Runs (d : Drv.D) (p : List Int) (t : Int) : Prop := d.motor = true ∧ d.side = p ∧ p ≠ [] ∧ Drv.Stands d t
theorem Runs.fit {d : Drv.D} {p : List Int} {t : Int} (h : Runs d p t) (hp : p.length ≤ 65536) : Fit d := by
 obtain ⟨_, hs, hn, h1, h2, h3⟩ := h
 have hn0 : 0 < p.length := List.length_pos_iff.2 hn
 unfold Fit
 rw [hs] at h2 h3
 unfold Drv.goneL at h2
 unfold Drv.goneP at h3
 have a := Int.emod_nonneg t (show (4000 : Int) + 149 * p.length ≠ 0 by omega)
 have b := Int.emod_lt_of_pos t (show (0 : Int) < 4000 + 149 * p.length by omega)
 generalize t % (4000 + 149 * (p.length : Int)) = u at *
 split at h2 <;> split at h3 <;> omega
theorem Runs.next {d : Drv.D} {p : List Int} {t : Int} (h : Runs d p t) : Runs (Drv.clk d).1 p (t + 1) ∧ (Drv.clk d).2 = Drv.passes p.length t ∧ (Drv.clk d).1.passed = (if Drv.passes p.length t = true then Drv.which p.length t else -1) ∧ (Drv.clk d).1.guarded = d.guarded ∧ (Drv.clk d).1.laid = false := by
 obtain ⟨hm, hs, hn, hst⟩ := h
 obtain ⟨h1, h2, h3, h4, h5, h6, h7⟩ := Drv.clk_stands d t hm (by rw [hs]; exact hn) hst
 rw [hs] at h2 h3 h4
 exact ⟨⟨h5, h4, hn, h1⟩, h2, h3, h6, h7⟩
theorem Runs.of_back {d : Drv.D} (hm : d.motor = true) (hs : d.side ≠ []) : Runs (back d) d.side 0 := by
 refine ⟨hm, rfl, hs, ?_, ?_, ?_⟩
 ·show false = _
  unfold Drv.goneR
  rw [Int.zero_emod]; rfl
 ·show 4000 = _
  unfold Drv.goneL
  rw [Int.zero_emod]; rfl
 ·show 0 = _
  unfold Drv.goneP
  rw [Int.zero_emod]; rfl
theorem clock_runs (base : Nat) (g : Nat) (v : Value) (d : Drv.D) (p : List Int) (t : Int) (W : World) (h : Is base W g v d) (hr : Runs d p t) (b : Bool) (hb : Drv.passes p.length t = b) :
  Calls Tryd.prog 46 #[.pointer (some ⟨g, 0, none⟩)] W fun e W' => e = .returned (.bool b) ∧ Is base W' g v (Drv.clk d).1 ∧ Turn base W W' (Foot g v) := by
 have hl := h.2.2.2
 rw [hr.2.1] at hl
 refine (clock_calls base g v d W h (hr.fit hl)).mono ?_
 rintro e W' ⟨rfl, h1, h2⟩
 rw [hr.next.2.1, hb]
 exact ⟨rfl, h1, h2⟩
theorem C_two (W : World) (a b : Int) : (Kd.int .u8).C (W.alloc (.cells #[.int .u8 a, .int .u8 b] 5 (0, 0))) (some ⟨W.heap.size, 0, none⟩) 2 [a, b] := by
 refine Kd.C_of_reads (d := 0) ⟨rfl, by decide, fun _ => ⟨_, rfl, fun j hj => ?_⟩⟩
 have h := heap_alloc_new W (.cells #[.int .u8 a, .int .u8 b] 5 (0, 0))
 have hA : At (W.alloc (.cells #[.int .u8 a, .int .u8 b] 5 (0, 0))) W.heap.size 5 #[.int .u8 a, .int .u8 b] := h
 rcases (show j = 0 ∨ j = 1 by omega) with rfl | rfl
 ·exact hA.cell 0
 ·exact hA.cell 1
end Go.Proofs.YtaiaapjlpbhlbaaDoor.Drive

namespace Go.Proofs.YtaiaapjlpbhlbaaDoor.Drive
open Go.RowKit Go.Proofs.YtaiaapjlpbhlbaaDoorW.PrintWords Go.Proofs.YtaiaapjlpbhlbaaDoorW.PrintLast Go.Proofs.YtaiaapjlpbhlbaaDoorW.PrintMore
set_option linter.unusedVariables false
set_option linter.unusedSimpArgs false
set_option maxRecDepth 20000
def laid (d : Drv.D) (b : Int) : Drv.D := { d with side := d.side.set d.passed.toNat b, laid := true, laidAt := d.passed, laidB := b }
theorem Is.ne {base : Nat} {W : World} {g : Nat} {v : Value} {d : Drv.D} (h : Is base W g v d) {k : Nat} (hk : v.ownBlock = some k) : g ≠ k := by
 obtain ⟨h0, hb, hl, q, hq, cs, hc⟩ := (Kd.R_bound h.2.2.1).1 k hk
 intro e
 subst e
 have := h.1
 unfold At at this
 rw [this] at hc
 injection hc with hc
 injection hc with _ ht
 subst ht
 revert hq
 decide
set_option maxHeartbeats 1000000 in
theorem lay_yes (base : Nat) (g : Nat) (v : Value) (d : Drv.D) (b : Int) (W : World) (h : Is base W g v d) (h0 : 0 ≤ d.passed) (h1 : d.passed < d.side.length) (hgd : d.guarded = false) :
  Calls Tryd.prog 49 #[.pointer (some ⟨g, 0, none⟩), .int .u8 b] W fun e W' => e = .returned (.bool true) ∧ Is base W' g v (laid d b) ∧ Turn base W W' (Foot g v) := by
 obtain ⟨g3, cap, hv, hgb, hgl⟩ := (Kd.own_of_R h.2.2.1).form (by omega)
 subst hv
 have hne := h.ne (k := g3) rfl
 have hput := Kd.R_putg h.2.2.1 d.passed b
 have f3 : W.frozen? ⟨g3, d.passed.toNat, none⟩ = false := (own_at (i := d.passed) (xs := d.side) (Kd.own_of_R h.2.2.1) h0 h1).2
 have x3 := (own_at (i := d.passed) (xs := d.side) (Kd.own_of_R h.2.2.1) h0 h1).1
 have hI : Is base (W.setCell ⟨g3, d.passed.toNat, none⟩ (.int .u8 b)) g (.slice (some ⟨g3, 0, none⟩) d.side.length cap) { d with side := d.side.set d.passed.toNat b } :=
  ⟨h.1.far (p := ⟨g3, d.passed.toNat, none⟩) hne _, h.2.1, hput.1, by rw [List.length_set]; exact h.2.2.2⟩
 have k0 := h.c0
 have k2 := h.c2
 have k6 := h.c6
 rw [hgd] at k2
 have H := Aside0.mk h
 have HI := Aside0.mk hI
 have HG := Aside0.mk (And.intro hgb hne)
 have e7 := hI.1.frozen 7
 have e8 := hI.1.frozen 8
 have e9 := hI.1.frozen 9
 have e6 := hI.c6
 have y7 := hI.c7
 have y8 := hI.c8
 have y9 := hI.c9
 have t1 : (d.passed == -1) = false := by simp; omega
 have p2 : d.side.length ≤ 65536 := h.2.2.2
 have q0 := eq_true h0
 have q1 := eq_true h1
 clear h hI hput hgb hgl hne
 generalize hn : d.side.length = n at *
 go_enter Tryd.func49, Tryd.ntmps49
 go_wp2
 refine start_ (n := 11) (S := fun w' => w'.cell? ⟨g, 0, none⟩ = some (.slice (some ⟨g3, 0, none⟩) n cap) ∧ w'.cell? ⟨g, 6, none⟩ = some (.int .i64 d.passed)) (ds := [10]) #[false, false, false, false, false, false, false, false, false, false, false] (by kernel_rfl) rfl rfl ⟨k0, k6⟩ (fun hHeld => ?_)
 refine pure_ (i := 0) (N := some 20) (v := ?_) (a' := ?_) #[true, false, false, false, false, false, false, false, false, false, false] rfl rfl (by kernel_rfl) (fun _ _ _ h => h) (Or.inl ⟨by rfl, ?_⟩) ?_ ?_
 rotate_left
 ·intro w'
  go_simp
  with_reducible rfl
 rotate_left
 ·simp only [Act.put, List.setIfInBounds_toArray, List.set_cons_zero, List.set_cons_succ, i64_w, i32_w]
  rfl
 refine pure_ (i := 1) (N := some 21) (v := ?_) (a' := ?_) #[true, true, false, false, false, false, false, false, false, false, false] rfl rfl (by kernel_rfl) (fun _ _ _ h => h) (Or.inl ⟨by rfl, ?_⟩) ?_ ?_
 rotate_left
 ·intro w'
  go_simp
  with_reducible rfl
 rotate_left
 ·simp only [Act.put, List.setIfInBounds_toArray, List.set_cons_zero, List.set_cons_succ, i64_w, i32_w]
  rfl
 refine pure_ (i := 2) (N := some 22) (v := ?_) (a' := ?_) #[true, true, true, false, false, false, false, false, false, false, false] rfl rfl (by kernel_rfl) (fun _ _ _ h => h) (Or.inl ⟨by rfl, ?_⟩) ?_ ?_
 rotate_left
 ·intro w'
  go_simp
  with_reducible rfl
 rotate_left
 ·simp only [Act.put, List.setIfInBounds_toArray, List.set_cons_zero, List.set_cons_succ, i64_w, i32_w]
  rfl
 refine pure_ (i := 4) (N := some 24) (v := ?_) (a' := ?_) #[true, true, true, false, true, false, false, false, false, false, false] rfl rfl (by kernel_rfl) (fun _ _ _ h => h) (Or.inl ⟨by rfl, ?_⟩) ?_ ?_
 rotate_left
 ·intro w'
  go_simp
  with_reducible rfl
 rotate_left
 ·simp only [Act.put, List.setIfInBounds_toArray, List.set_cons_zero, List.set_cons_succ, i64_w, i32_w]
  rfl
 refine pure_ (i := 5) (N := some 25) (v := ?_) (a' := ?_) #[true, true, true, false, true, true, false, false, false, false, false] rfl rfl (by kernel_rfl) (fun _ _ _ h => h) (Or.inl ⟨by rfl, ?_⟩) ?_ ?_
 rotate_left
 ·intro w'
  go_simp
  with_reducible rfl
 rotate_left
 ·simp only [Act.put, List.setIfInBounds_toArray, List.set_cons_zero, List.set_cons_succ, i64_w, i32_w]
  rfl
 refine pure_ (i := 6) (N := some 26) (v := ?_) (a' := ?_) #[true, true, true, false, true, true, true, false, false, false, false] rfl rfl (by kernel_rfl) (fun _ _ _ h => h) (Or.inl ⟨by rfl, ?_⟩) ?_ ?_
 rotate_left
 ·intro w'
  go_simp
  with_reducible rfl
 rotate_left
 ·simp only [Act.put, List.setIfInBounds_toArray, List.set_cons_zero, List.set_cons_succ, i64_w, i32_w]
  rfl
 refine pure_ (i := 8) (N := some 28) (v := ?_) (a' := ?_) #[true, true, true, false, true, true, true, false, true, false, false] rfl rfl (by kernel_rfl) (fun _ _ _ h => h) (Or.inl ⟨by rfl, ?_⟩) ?_ ?_
 rotate_left
 ·intro w'
  go_simp
  with_reducible rfl
 rotate_left
 ·simp only [Act.put, List.setIfInBounds_toArray, List.set_cons_zero, List.set_cons_succ, i64_w, i32_w]
  rfl
 refine take_ (i := 3) (N := some 23) (v := ?_) (a' := ?_) #[true, true, true, true, true, true, true, false, true, false, false] rfl rfl (by kernel_rfl) (fun _ _ _ h => h) (Or.inl ⟨by rfl, ?_⟩) hHeld ?_ ?_
 rotate_left
 ·rintro w' ⟨s0, s1⟩
  go_simp
  with_reducible rfl
 rotate_left
 ·simp only [Act.put, List.setIfInBounds_toArray, List.set_cons_zero, List.set_cons_succ, i64_w, i32_w]
  rfl
 refine take_ (i := 7) (N := some 27) (v := ?_) (a' := ?_) #[true, true, true, true, true, true, true, true, true, false, false] rfl rfl (by kernel_rfl) (fun _ _ _ h => h) (Or.inl ⟨by rfl, ?_⟩) hHeld ?_ ?_
 rotate_left
 ·rintro w' ⟨s0, s1⟩
  go_simp
  with_reducible rfl
 rotate_left
 ·simp only [Act.put, List.setIfInBounds_toArray, List.set_cons_zero, List.set_cons_succ, i64_w, i32_w]
  rfl
 refine pure_ (i := 9) (N := some 29) (v := ?_) (a' := ?_) #[true, true, true, true, true, true, true, true, true, true, false] rfl rfl (by kernel_rfl) (fun _ _ _ h => h) (Or.inl ⟨by rfl, ?_⟩) ?_ ?_
 rotate_left
 ·intro w'
  go_simp
  with_reducible rfl
 rotate_left
 ·simp only [Act.put, List.setIfInBounds_toArray, List.set_cons_zero, List.set_cons_succ, i64_w, i32_w]
  rfl
 refine last_ (i := 10) (N := none) #[true, true, true, true, true, true, true, true, true, true, true] rfl rfl (by kernel_rfl) (by decide) (fun K hK => ?_)
 refine skip_ (w1 := ?_) (by rfl) rfl ?_ ?_
 rotate_left
 ·go_simp
  rfl
 refine hK.out _ _ ?_
 clear hK K
 refine done_ (by kernel_rfl) ?_
 go_wp2
 go_ret
 have a0 := HI.out.drew
 have a1 := a0.set_ (d' := { d with side := d.side.set d.passed.toNat b, laid := true }) 7 (.bool true) rfl rfl
 have a2 := a1.set_ (d' := { d with side := d.side.set d.passed.toNat b, laid := true, laidAt := d.passed }) 8 (.int .i64 d.passed) rfl rfl
 have a3 := a2.set_ (d' := laid d b) 9 (.int .u8 b) rfl rfl
 refine ⟨rfl, a3, ?_⟩
 have b0 := H.out.2.1
 exact (((((Turn.refl base W _).set_ (i := d.passed.toNat) (.inr rfl) HG.out.1 _).drew.set_ (.inl rfl) b0 _).set_ (.inl rfl) b0 _).set_ (.inl rfl) b0 _)
end Go.Proofs.YtaiaapjlpbhlbaaDoor.Drive
