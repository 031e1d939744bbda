/-
  LAY: the byte that passed, laid. By the prover of this repo.
-/
import Derived.Test.YtmfdmfflbdghfaaDrvRefuses
namespace Go.Proofs.Ytmfdmfflbdghfaa.Drive
open Go.RowKit Go.Proofs.Ytmfdmfflbdghfaa.PDriveLays Go.Proofs.YtmfdmfflbdghfaaW.PrintWords Go.Proofs.YtmfdmfflbdghfaaW.PrintLast Go.Proofs.YtmfdmfflbdghfaaW.PrintMore
set_option linter.unusedVariables false
set_option linter.unusedSimpArgs false
def laid (d : Drv.D) (b : Int) : Drv.D := { d with side := d.side.set d.passed.toNat b, laid := true, laidAt := d.passed, laidB := b }
theorem Is.ne {base : Nat} {W : World} {g : Nat} {v : Value} {d : Drv.D} (h : Is base W g v d) {k : Nat} (hk : v.ownBlock = some k) : g ≠ k := by
  obtain ⟨h0, hb, hl, q, hq, cs, hc⟩ := (Kd.R_bound h.2.2.1).1 k hk
  intro e
  subst e
  have := h.1
  unfold At at this
  rw [this] at hc
  injection hc with hc
  injection hc with _ ht
  subst ht
  revert hq
  decide
set_option maxHeartbeats 1000000 in
theorem lay_yes (base : Nat) (g : Nat) (v : Value) (d : Drv.D) (b : Int) (W : World) (h : Is base W g v d) (h0 : 0 ≤ d.passed) (h1 : d.passed < d.side.length) (hgd : d.guarded = false) :
    Calls Try.prog 20 #[.pointer (some ⟨g, 0, none⟩), .int .u8 b] W fun e W' => e = .returned (.bool true) ∧ Is base W' g v (laid d b) ∧ Turn base W W' (Foot g v) := by
  obtain ⟨g3, cap, hv, hgb, hgl⟩ := (Kd.own_of_R h.2.2.1).form (by omega)
  subst hv
  have hne := h.ne (k := g3) rfl
  have hput := Kd.R_putg h.2.2.1 d.passed b
  have f3 : W.frozen? ⟨g3, d.passed.toNat, none⟩ = false := (own_at (i := d.passed) (xs := d.side) (Kd.own_of_R h.2.2.1) h0 h1).2
  have x3 := (own_at (i := d.passed) (xs := d.side) (Kd.own_of_R h.2.2.1) h0 h1).1
  have hI : Is base (W.setCell ⟨g3, d.passed.toNat, none⟩ (.int .u8 b)) g (.slice (some ⟨g3, 0, none⟩) d.side.length cap) { d with side := d.side.set d.passed.toNat b } :=
    ⟨h.1.far (p := ⟨g3, d.passed.toNat, none⟩) hne _, h.2.1, hput.1, by rw [List.length_set]; exact h.2.2.2⟩
  have k0 := h.c0
  have k2 := h.c2
  have k6 := h.c6
  rw [hgd] at k2
  have H := Aside0.mk h
  have HI := Aside0.mk hI
  have HG := Aside0.mk (And.intro hgb hne)
  have e7 := hI.1.frozen 7
  have e8 := hI.1.frozen 8
  have e9 := hI.1.frozen 9
  have e6 := hI.c6
  have y7 := hI.c7
  have y8 := hI.c8
  have y9 := hI.c9
  have t1 : (d.passed == -1) = false := by simp; omega
  have p2 : d.side.length ≤ 65536 := h.2.2.2
  have q0 := eq_true h0
  have q1 := eq_true h1
  clear h hI hput hgb hgl hne
  generalize hn : d.side.length = n at *
  go_enter Try.func20, Try.ntmps20
  go_wp2
  refine start_ (n := 11) (S := fun w' => w'.cell? ⟨g, 0, none⟩ = some (.slice (some ⟨g3, 0, none⟩) n cap) ∧ w'.cell? ⟨g, 6, none⟩ = some (.int .i64 d.passed)) (ds := [10]) #[false, false, false, false, false, false, false, false, false, false, false] (by kernel_rfl) rfl rfl ⟨k0, k6⟩ (fun hHeld => ?_)
  refine pure_ (i := 0) (N := some 20) (v := ?_) (a' := ?_) #[true, false, false, false, false, false, false, false, false, false, false] rfl rfl (by kernel_rfl) (fun _ _ _ h => h) (Or.inl ⟨by rfl, ?_⟩) ?_ ?_
  rotate_left
  · intro w'
    go_simp
    with_reducible rfl
  rotate_left
  · simp only [Act.put, List.setIfInBounds_toArray, List.set_cons_zero, List.set_cons_succ, i64_w, i32_w]
    rfl
  refine pure_ (i := 1) (N := some 21) (v := ?_) (a' := ?_) #[true, true, false, false, false, false, false, false, false, false, false] rfl rfl (by kernel_rfl) (fun _ _ _ h => h) (Or.inl ⟨by rfl, ?_⟩) ?_ ?_
  rotate_left
  · intro w'
    go_simp
    with_reducible rfl
  rotate_left
  · simp only [Act.put, List.setIfInBounds_toArray, List.set_cons_zero, List.set_cons_succ, i64_w, i32_w]
    rfl
  refine pure_ (i := 2) (N := some 22) (v := ?_) (a' := ?_) #[true, true, true, false, false, false, false, false, false, false, false] rfl rfl (by kernel_rfl) (fun _ _ _ h => h) (Or.inl ⟨by rfl, ?_⟩) ?_ ?_
  rotate_left
  · intro w'
    go_simp
    with_reducible rfl
  rotate_left
  · simp only [Act.put, List.setIfInBounds_toArray, List.set_cons_zero, List.set_cons_succ, i64_w, i32_w]
    rfl
  refine pure_ (i := 4) (N := some 24) (v := ?_) (a' := ?_) #[true, true, true, false, true, false, false, false, false, false, false] rfl rfl (by kernel_rfl) (fun _ _ _ h => h) (Or.inl ⟨by rfl, ?_⟩) ?_ ?_
  rotate_left
  · intro w'
    go_simp
    with_reducible rfl
  rotate_left
  · simp only [Act.put, List.setIfInBounds_toArray, List.set_cons_zero, List.set_cons_succ, i64_w, i32_w]
    rfl
  refine pure_ (i := 5) (N := some 25) (v := ?_) (a' := ?_) #[true, true, true, false, true, true, false, false, false, false, false] rfl rfl (by kernel_rfl) (fun _ _ _ h => h) (Or.inl ⟨by rfl, ?_⟩) ?_ ?_
  rotate_left
  · intro w'
    go_simp
    with_reducible rfl
  rotate_left
  · simp only [Act.put, List.setIfInBounds_toArray, List.set_cons_zero, List.set_cons_succ, i64_w, i32_w]
    rfl
  refine pure_ (i := 6) (N := some 26) (v := ?_) (a' := ?_) #[true, true, true, false, true, true, true, false, false, false, false] rfl rfl (by kernel_rfl) (fun _ _ _ h => h) (Or.inl ⟨by rfl, ?_⟩) ?_ ?_
  rotate_left
  · intro w'
    go_simp
    with_reducible rfl
  rotate_left
  · simp only [Act.put, List.setIfInBounds_toArray, List.set_cons_zero, List.set_cons_succ, i64_w, i32_w]
    rfl
  refine pure_ (i := 8) (N := some 28) (v := ?_) (a' := ?_) #[true, true, true, false, true, true, true, false, true, false, false] rfl rfl (by kernel_rfl) (fun _ _ _ h => h) (Or.inl ⟨by rfl, ?_⟩) ?_ ?_
  rotate_left
  · intro w'
    go_simp
    with_reducible rfl
  rotate_left
  · simp only [Act.put, List.setIfInBounds_toArray, List.set_cons_zero, List.set_cons_succ, i64_w, i32_w]
    rfl
  refine take_ (i := 3) (N := some 23) (v := ?_) (a' := ?_) #[true, true, true, true, true, true, true, false, true, false, false] rfl rfl (by kernel_rfl) (fun _ _ _ h => h) (Or.inl ⟨by rfl, ?_⟩) hHeld ?_ ?_
  rotate_left
  · rintro w' ⟨s0, s1⟩
    go_simp
    with_reducible rfl
  rotate_left
  · simp only [Act.put, List.setIfInBounds_toArray, List.set_cons_zero, List.set_cons_succ, i64_w, i32_w]
    rfl
  refine take_ (i := 7) (N := some 27) (v := ?_) (a' := ?_) #[true, true, true, true, true, true, true, true, true, false, false] rfl rfl (by kernel_rfl) (fun _ _ _ h => h) (Or.inl ⟨by rfl, ?_⟩) hHeld ?_ ?_
  rotate_left
  · rintro w' ⟨s0, s1⟩
    go_simp
    with_reducible rfl
  rotate_left
  · simp only [Act.put, List.setIfInBounds_toArray, List.set_cons_zero, List.set_cons_succ, i64_w, i32_w]
    rfl
  refine pure_ (i := 9) (N := some 29) (v := ?_) (a' := ?_) #[true, true, true, true, true, true, true, true, true, true, false] rfl rfl (by kernel_rfl) (fun _ _ _ h => h) (Or.inl ⟨by rfl, ?_⟩) ?_ ?_
  rotate_left
  · intro w'
    go_simp
    with_reducible rfl
  rotate_left
  · simp only [Act.put, List.setIfInBounds_toArray, List.set_cons_zero, List.set_cons_succ, i64_w, i32_w]
    rfl
  refine last_ (i := 10) (N := none) #[true, true, true, true, true, true, true, true, true, true, true] rfl rfl (by kernel_rfl) (by decide) (fun K hK => ?_)
  refine skip_ (w1 := ?_) (by rfl) rfl ?_ ?_
  rotate_left
  · go_simp
    rfl
  refine hK.out _ _ ?_
  clear hK K
  refine done_ (by kernel_rfl) ?_
  go_wp2
  go_ret
  have a0 := HI.out.drew
  have a1 := a0.set_ (d' := { d with side := d.side.set d.passed.toNat b, laid := true }) 7 (.bool true) rfl rfl
  have a2 := a1.set_ (d' := { d with side := d.side.set d.passed.toNat b, laid := true, laidAt := d.passed }) 8 (.int .i64 d.passed) rfl rfl
  have a3 := a2.set_ (d' := laid d b) 9 (.int .u8 b) rfl rfl
  refine ⟨rfl, a3, ?_⟩
  have b0 := H.out.2.1
  exact (((((Turn.refl base W _).set_ (i := d.passed.toNat) (.inr rfl) HG.out.1 _).drew.set_ (.inl rfl) b0 _).set_ (.inl rfl) b0 _).set_ (.inl rfl) b0 _)
end Go.Proofs.Ytmfdmfflbdghfaa.Drive
