/-
  THE DRIVE's METHODS, the rest: Copy, Last, of a nil drive. By the prover of this repo.
-/
import Derived.Test.YtmfdmfflbdghfaaDrv
namespace Go.Proofs.Ytmfdmfflbdghfaa.Drive
open Go.RowKit Go.Proofs.YtmfdmfflbdghfaaW.PrintWords Go.Proofs.YtmfdmfflbdghfaaW.PrintLast Go.Proofs.YtmfdmfflbdghfaaW.PrintMore
set_option linter.unusedVariables false
set_option linter.unusedSimpArgs false

theorem copy_calls (base : Nat) (g : Nat) (v : Value) (d : Drv.D) (W : World) (h : Is base W g v d) (hbase : base ≤ W.heap.size) :
    Calls Try.prog 17 #[.pointer (some ⟨g, 0, none⟩)] W fun e W' => ∃ g1 v1, e = .returned (.pointer (some ⟨g1, 0, none⟩)) ∧ Is base W' g1 v1 d ∧ Below W.heap.size W W' ∧ W.heap.size ≤ g1 ∧ (∀ k, v1.ownBlock = some k → W.heap.size ≤ k) := by
  have H := Aside0.mk h
  have k0 := h.c0
  have k1 := h.c1
  have k2 := h.c2
  have k3 := h.c3
  have k4 := h.c4
  have k5 := h.c5
  have k6 := h.c6
  have k7 := h.c7
  have k8 := h.c8
  have k9 := h.c9
  obtain ⟨A, c, hv, hc, hC⟩ := h.slice
  subst hv
  have kA : ∀ o, (W.alloc o).cell? ⟨g, 0, none⟩ = some (.slice A d.side.length c) := fun o => (World.cell?_alloc_lt W o ⟨g, 0, none⟩ h.1.lt).trans k0
  have HC := Aside0.mk hC
  have HL := Aside0.mk hc
  have HX := Aside0.mk (show bytes_Clone.f d.side = some d.side by unfold bytes_Clone.f; rw [if_pos (by have := h.2.2.2; omega)])
  have HBA := Aside0.mk hbase
  have HG := Aside0.mk h.1.lt
  clear h hc hC hbase
  go_enter Try.func17, Try.ntmps17
  go_wp2_with fail
  refine (bytes_Clone.calls A c d.side d.side _ (Kd.C_alloc HC.out _) HL.out HX.out).mono ?_
  rintro e w1 ⟨v1, rfl, ho, hb⟩
  have HO := Aside0.mk ho
  have HB := Aside0.mk (below_step (below_alloc (Below.refl _ _) _) hb)
  have HA := Aside0.mk (At.below (t := 43) (cs := cells (.slice A d.side.length c) d) (heap_alloc_new W _) hb)
  have m0 : w1.cell? ⟨W.heap.size, 0, none⟩ = some (.slice A d.side.length c) := HA.out.cell 0
  have m1 := HA.out.frozen 0
  have HS := Aside0.mk (below_size (below_alloc (Below.refl W.heap.size W) (.cells (cells (.slice A d.side.length c) d) 43)))
  have HI := Aside0.mk (store0 HA.out HBA.out (d' := d) (Kd.R_lower HO.out (Nat.le_trans HBA.out HS.out)) H.out.2.2.2 rfl)
  obtain ⟨A1, c1, ev⟩ := Kd.R_slice HO.out
  subst ev
  clear ho hb
  go_wp2
  go_ret
  exact ⟨_, _, rfl, HI.out, HB.out.setCell (Nat.le_refl _) _, Nat.le_refl _, fun k hk => Nat.le_trans HS.out (Kd.R_base HO.out k hk)⟩
theorem last_none (base : Nat) (g : Nat) (v : Value) (d : Drv.D) (W : World) (h : Is base W g v d) (hl : d.laid = false) :
    Calls Try.prog 25 #[.pointer (some ⟨g, 0, none⟩)] W fun e W' => e = .returned (.tuple #[.int .i64 0, .int .u8 0, .bool false]) ∧ W = W' := by
  have k7 := h.c7
  rw [hl] at k7
  clear h hl
  go_enter Try.func25, Try.ntmps25
  go_wp2
  go_ret3
  exact ⟨rfl, rfl⟩

/-! ### a nil drive -/
theorem nil_insert (A : Option Addr) (n c : Nat) (W : World) : Calls Try.prog 11 #[.pointer none, .slice A n c] W fun e W' => e = .returned (.bool false) ∧ W = W' := by
  go_enter Try.func11, Try.ntmps11
  go_wp2
  go_ret
  exact ⟨rfl, rfl⟩
theorem nil_eject (W : World) : Calls Try.prog 18 #[.pointer none] W fun e W' => e = .returned (.slice none 0 0) ∧ W = W' := by
  go_enter Try.func18, Try.ntmps18
  go_wp2
  go_ret
  exact ⟨rfl, rfl⟩
theorem nil_has (W : World) : Calls Try.prog 19 #[.pointer none] W fun e W' => e = .returned (.bool false) ∧ W = W' := by
  go_enter Try.func19, Try.ntmps19
  go_wp2
  go_ret
  exact ⟨rfl, rfl⟩
theorem nil_protect (on : Bool) (W : World) : Calls Try.prog 22 #[.pointer none, .bool on] W fun e W' => e = .returned (.tuple #[]) ∧ W = W' := by
  go_enter Try.func22, Try.ntmps22
  go_wp2
  go_end0
  exact ⟨rfl, rfl⟩
theorem nil_motor (on : Bool) (W : World) : Calls Try.prog 12 #[.pointer none, .bool on] W fun e W' => e = .returned (.tuple #[]) ∧ W = W' := by
  go_enter Try.func12, Try.ntmps12
  go_wp2
  go_end0
  exact ⟨rfl, rfl⟩
theorem nil_clock (W : World) : Calls Try.prog 13 #[.pointer none] W fun e W' => e = .returned (.bool false) ∧ W = W' := by
  go_enter Try.func13, Try.ntmps13
  go_wp2
  go_ret
  exact ⟨rfl, rfl⟩
theorem nil_ready (W : World) : Calls Try.prog 15 #[.pointer none] W fun e W' => e = .returned (.bool false) ∧ W = W' := by
  go_enter Try.func15, Try.ntmps15
  go_wp2
  go_ret
  exact ⟨rfl, rfl⟩
theorem nil_get (W : World) : Calls Try.prog 14 #[.pointer none] W fun e W' => e = .returned (.int .u8 0) ∧ W = W' := by
  go_enter Try.func14, Try.ntmps14
  go_wp2
  go_ret
  exact ⟨rfl, rfl⟩
theorem nil_lay (b : Int) (W : World) : Calls Try.prog 20 #[.pointer none, .int .u8 b] W fun e W' => e = .returned (.bool false) ∧ W = W' := by
  go_enter Try.func20, Try.ntmps20
  go_wp2
  go_ret
  exact ⟨rfl, rfl⟩
theorem nil_last (W : World) : Calls Try.prog 25 #[.pointer none] W fun e W' => e = .returned (.tuple #[.int .i64 0, .int .u8 0, .bool false]) ∧ W = W' := by
  go_enter Try.func25, Try.ntmps25
  go_wp2
  go_ret3
  exact ⟨rfl, rfl⟩
theorem nil_side (W : World) : Calls Try.prog 16 #[.pointer none] W fun e W' => e = .returned (.slice none 0 0) ∧ W = W' := by
  go_enter Try.func16, Try.ntmps16
  go_wp2
  go_ret
  exact ⟨rfl, rfl⟩
theorem nil_copy (W : World) : Calls Try.prog 17 #[.pointer none] W fun e W' => e = .returned (.pointer none) ∧ W = W' := by
  go_enter Try.func17, Try.ntmps17
  go_wp2
  go_ret
  exact ⟨rfl, rfl⟩
theorem nil_at (W : World) : Calls Try.prog 21 #[.pointer none] W fun e W' => e = .returned (.int .i64 0) ∧ W = W' := by
  go_enter Try.func21, Try.ntmps21
  go_wp2_with (go_at_call 15; refine (nil_ready _).mono ?_; rintro e W' ⟨rfl, rfl⟩)
  go_ret
  exact ⟨rfl, rfl⟩
end Go.Proofs.Ytmfdmfflbdghfaa.Drive
