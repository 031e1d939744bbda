/-
 THE ADAPTER's STRUCT, with its drive and its wave. By the prover of this repo.
-/
import Derived.Test.YtaiaapjlpbhlbaaDoorZDrv
import Derived.Test.YtaiaapjlpbhlbaaDoorZWavC
namespace Go.Proofs.YtaiaapjlpbhlbaaDoor.Ada
open Go.RowKit Go.Proofs.YtaiaapjlpbhlbaaDoorW.PrintWords Go.Proofs.YtaiaapjlpbhlbaaDoorW.PrintLast Go.Proofs.YtaiaapjlpbhlbaaDoorW.PrintMore
set_option linter.unusedVariables false
set_option linter.unusedSimpArgs false
structure A where
 from_ : Int
 count : Int
 on : Bool
 rep : Bool
 exp : Bool
 opn : Int
 ctl : Int
 inn : Int
 out : Int
 wire : Int
 asks : Bool
 found : Bool
 sum : Int
 tail : Int
def a0 : A := ⟨0, 0, false, false, false, 0, 0, 0, 0, 0, false, false, 32768, 0⟩
def cells (gd gw : Nat) (a : A) : Array Value := #[.pointer (some ⟨gd, 0, none⟩), .pointer (some ⟨gw, 0, none⟩), .int .u16 a.from_, .int .u16 a.count, .bool a.on, .bool a.rep, .bool a.exp, .int .u8 a.opn, .int .u8 a.ctl, .int .u8 a.inn, .int .u8 a.out, .int .u8 a.wire, .bool a.asks, .bool a.found, .int .u16 a.sum, .int .i64 a.tail]
structure P where
 g : Nat
 gd : Nat
 gw : Nat
 v : Value
def Foot (p : P) (i : Nat) : Prop := i = p.g ∨ i = p.gd ∨ i = p.gw ∨ p.v.ownBlock = some i
structure Is (base : Nat) (W : World) (p : P) (a : A) (d : Drv.D) (u : Wave.V) : Prop where
 at_ : Drive.At W p.g 78 (cells p.gd p.gw a)
 bs : base ≤ p.g
 dr : Drive.Is base W p.gd p.v d
 wv : Wave.Is base W p.gw u
 ne1 : p.g ≠ p.gd
 ne2 : p.g ≠ p.gw
 ne3 : p.gd ≠ p.gw
 own : ∀ k, p.v.ownBlock = some k → k ≠ p.g ∧ k ≠ p.gw
theorem R_kept {W W' : World} {base : Nat} {v : Value} {xs : List Int} {S : Nat → Prop} (h : (Kd.int .u8).R 5 W base (fun _ => True) v xs) (hk : ∀ i, i < W.heap.size → ¬ S i → W'.heap[i]? = W.heap[i]?) (hS : ∀ k, v.ownBlock = some k → ¬ S k) : (Kd.int .u8).R 5 W' base (fun _ => True) v xs :=
 Kd.R_mono (Kd.R_step (Kd.R_of_own (enc := Value.int .u8) (ok := fun k => v.ownBlock = some k) (Kd.own_of_R h) (fun k e => e)) (fun k e hlt => hk k hlt (hS k e))) (fun _ _ => trivial)
section
variable {base : Nat} {W W1 : World} {p : P} {a : A} {d : Drv.D} {u : Wave.V}
theorem Is.cell (h : Is base W p a d u) (i : Nat) : W.cell? ⟨p.g, i, none⟩ = (cells p.gd p.gw a)[i]? := h.at_.cell i
theorem Is.frozen (h : Is base W p a d u) (i : Nat) : W.frozen? ⟨p.g, i, none⟩ = false := h.at_.frozen i
theorem Is.set_ (h : Is base W p a d u) (i : Nat) (x : Value) {a' : A} (hc : (cells p.gd p.gw a).setIfInBounds i x = cells p.gd p.gw a') : Is base (W.setCell ⟨p.g, i, none⟩ x) p a' d u :=
 ⟨by have := h.at_.set_ i x; rwa [hc] at this, h.bs, ⟨h.dr.1.far (Ne.symm h.ne1) x, h.dr.2.1, Kd.R_set h.dr.2.2.1 h.at_ (by decide) i x, h.dr.2.2.2⟩, ⟨h.wv.at_.far (Ne.symm h.ne2) x, h.wv.base, h.wv.lt, h.wv.ln, h.wv.lr⟩, h.ne1, h.ne2, h.ne3, h.own⟩
theorem Is.drewN (h : Is base W p a d u) (n : Nat) : Is base (W.drewN n) p a d u := ⟨h.at_, h.bs, h.dr.drewN n, h.wv.drewN n, h.ne1, h.ne2, h.ne3, h.own⟩
theorem Is.drew (h : Is base W p a d u) : Is base W.drew p a d u := ⟨h.at_, h.bs, h.dr.drew, h.wv.drew, h.ne1, h.ne2, h.ne3, h.own⟩
theorem Is.below (h : Is base W p a d u) (hb : Below W.heap.size W W1) : Is base W1 p a d u := ⟨h.at_.below hb, h.bs, h.dr.below hb, h.wv.below hb, h.ne1, h.ne2, h.ne3, h.own⟩
theorem Is.after_wave (h : Is base W p a d u) {u' : Wave.V} (hw : Wave.Is base W1 p.gw u') (ht : Wave.Turn base W W1 (Wave.One p.gw)) : Is base W1 p a d u' :=
 ⟨(ht.kept p.g h.at_.lt (fun e => h.ne2 e)).trans h.at_, h.bs, ⟨(ht.kept p.gd h.dr.1.lt (fun e => h.ne3 e)).trans h.dr.1, h.dr.2.1, R_kept h.dr.2.2.1 ht.kept (fun k e hs => (h.own k e).2 hs), h.dr.2.2.2⟩, hw, h.ne1, h.ne2, h.ne3, h.own⟩
theorem Is.after_drive (h : Is base W p a d u) {d' : Drv.D} (hw : Drive.Is base W1 p.gd p.v d') (ht : Drive.Turn base W W1 (Drive.Foot p.gd p.v)) : Is base W1 p a d' u :=
 ⟨(ht.kept p.g h.at_.lt (fun e => e.elim (fun e => h.ne1 e) (fun e => (h.own _ e).1 rfl))).trans h.at_, h.bs, hw, ⟨(ht.kept p.gw h.wv.at_.lt (fun e => e.elim (fun e => h.ne3 e.symm) (fun e => (h.own _ e).2 rfl))).trans h.wv.at_, h.wv.base, h.wv.lt, h.wv.ln, h.wv.lr⟩, h.ne1, h.ne2, h.ne3, h.own⟩
end
abbrev Turn := Drive.Turn
theorem of_wave {base : Nat} {W W1 : World} {p : P} (ht : Wave.Turn base W W1 (Wave.One p.gw)) : Drive.Turn base W W1 (Foot p) := ⟨ht.below, fun i hi hn => ht.kept i hi (fun e => hn (.inr (.inr (.inl e))))⟩
theorem of_drive {base : Nat} {W W1 : World} {p : P} (ht : Drive.Turn base W W1 (Drive.Foot p.gd p.v)) : Drive.Turn base W W1 (Foot p) := ⟨ht.below, fun i hi hn => ht.kept i hi (fun e => hn (e.elim (fun e => .inr (.inl e)) (fun e => .inr (.inr (.inr e)))))⟩
def d0 : Drv.D := ⟨[], false, false, false, 0, 0, -1, false, 0, 0⟩
theorem newA_calls (base : Nat) (W : World) (hb : base ≤ W.heap.size) : Calls Tryd.prog 10 #[] W fun e W' => ∃ p : P, e = .returned (.pointer (some ⟨p.g, 0, none⟩)) ∧ Is base W' p a0 d0 Wave.v0 ∧ Below W.heap.size W W' ∧ W.heap.size ≤ p.g ∧ W.heap.size ≤ p.gd ∧ W.heap.size ≤ p.gw ∧ p.v = .slice none 0 0 := by
 go_enter Tryd.func10, Tryd.ntmps10
 go_wp2_with fail
 refine (Drive.new_calls base W hb).mono ?_
 rintro e w1 ⟨gd, rfl, hd, hb1, hg1⟩
 have HD := Aside0.mk hd; have HB1 := Aside0.mk hb1; have HG1 := Aside0.mk hg1; clear hd hb1 hg1
 go_wp2_with fail
 refine (Wave.new_calls base w1 (Nat.le_trans hb HB1.out.size)).mono ?_
 rintro e w2 ⟨gw, rfl, hw, hb2, hg2⟩
 have HW := Aside0.mk hw; have HB2 := Aside0.mk hb2; have HG2 := Aside0.mk hg2; clear hw hb2 hg2
 go_wp2
 go_ret
 have l1 := HD.out.1.lt
 have l2 := HW.out.at_.lt
 have s1 := HB1.out.size
 have s2 := HB2.out.size
 have g1 := HG1.out
 have g2 := HG2.out
 refine ⟨⟨w2.heap.size, gd, gw, .slice none 0 0⟩, rfl, ⟨heap_alloc_new w2 _, by show base ≤ w2.heap.size; omega, (HD.out.below HB2.out).below (below_alloc (Below.refl _ _) _), HW.out.below (below_alloc (Below.refl _ _) _), by show w2.heap.size ≠ gd; omega, by show w2.heap.size ≠ gw; omega, by show gd ≠ gw; omega, fun k e => by cases e⟩, below_alloc (HB1.out.trans (HB2.out.mono s1)) _, by show W.heap.size ≤ w2.heap.size; omega, HG1.out, by show W.heap.size ≤ gw; omega, rfl⟩
/-- a cycle of the timer -/
def tick (a : A) : A := if a.on = false then a else if 0 < a.count then { a with count := a.count - 1 } else { a with exp := true, count := a.from_, on := a.rep }
set_option maxRecDepth 20000 in
theorem tick_calls (base : Nat) (W : World) (p : P) (a : A) (d : Drv.D) (u : Wave.V) (h : Is base W p a d u) (hc : 0 ≤ a.count ∧ a.count < 65536) :
  Calls Tryd.prog 45 #[.pointer (some ⟨p.g, 2, none⟩)] W fun e W' => e = .returned (.tuple #[]) ∧ Is base W' p (tick a) d u ∧ Turn base W W' (Foot p) := by
 have H := Aside0.mk h
 have c2 : W.cell? ⟨p.g, 2, none⟩ = some (.int .u16 a.from_) := h.cell 2
 have c3 : W.cell? ⟨p.g, 3, none⟩ = some (.int .u16 a.count) := h.cell 3
 have c4 : W.cell? ⟨p.g, 4, none⟩ = some (.bool a.on) := h.cell 4
 have c5 : W.cell? ⟨p.g, 5, none⟩ = some (.bool a.rep) := h.cell 5
 have c6 : W.cell? ⟨p.g, 6, none⟩ = some (.bool a.exp) := h.cell 6
 have f3 := h.frozen 3
 have f4 := h.frozen 4
 have f6 := h.frozen 6
 unfold tick
 by_cases h1 : a.on = false
 ·rw [if_pos h1]
  rw [h1] at c4
  clear h hc h1
  go_enter Tryd.func45, Tryd.ntmps45
  go_wp2
  go_end0
  exact ⟨rfl, H.out, Drive.Turn.refl _ _ _⟩
 have h1' : a.on = true := by simpa using h1
 rw [if_neg h1]
 rw [h1'] at c4
 by_cases h2 : 0 < a.count
 ·rw [if_pos h2]
  have d2 : decide (0 < a.count) = true := decide_eq_true h2
  have w2 : IntKind.u16.wrap (a.count - 1) = a.count - 1 := by rw [IntKind.wrap_u16]; omega
  clear h hc h1 h1' h2
  go_enter Tryd.func45, Tryd.ntmps45
  go_wp2
  go_end0
  exact ⟨rfl, H.out.set_ (a' := { a with count := a.count - 1 }) 3 (.int .u16 (a.count - 1)) rfl, (Drive.Turn.refl _ _ _).set_ (.inl rfl) H.out.bs _⟩
 ·rw [if_neg h2]
  have d2 : decide (0 < a.count) = false := decide_eq_false h2
  clear h hc h1 h1' h2
  go_enter Tryd.func45, Tryd.ntmps45
  go_wp2
  have H3 := Aside0.mk H.out.drew
  refine start_ (n := 20) (S := fun w' => w'.cell? ⟨p.g, 2, none⟩ = some (.int .u16 a.from_) ∧ w'.cell? ⟨p.g, 5, none⟩ = some (.bool a.rep)) (ds := [13, 16, 19]) #[false, false, false, false, false, false, false, false, false, false, false, false, false, false, false, false, false, false, false, false] (by kernel_rfl) rfl rfl ⟨H3.out.cell 2, H3.out.cell 5⟩ (fun hHeld => ?_)
  refine pure_ (i := 0) (N := some 2) (v := ?_) (a' := ?_) #[true, false, false, false, false, false, false, false, false, false, false, false, false, false, false, false, false, false, false, false] rfl rfl (by kernel_rfl) (fun _ _ _ h => h) (Or.inl ⟨by rfl, ?_⟩) ?_ ?_
  rotate_left
  ·intro w'
   go_simp
   with_reducible rfl
  rotate_left
  ·simp only [Act.put, List.setIfInBounds_toArray, List.set_cons_zero, List.set_cons_succ, i64_w, i32_w]
   rfl
  refine pure_ (i := 1) (N := some 3) (v := ?_) (a' := ?_) #[true, true, false, false, false, false, false, false, false, false, false, false, false, false, false, false, false, false, false, false] rfl rfl (by kernel_rfl) (fun _ _ _ h => h) (Or.inl ⟨by rfl, ?_⟩) ?_ ?_
  rotate_left
  ·intro w'
   go_simp
   with_reducible rfl
  rotate_left
  ·simp only [Act.put, List.setIfInBounds_toArray, List.set_cons_zero, List.set_cons_succ, i64_w, i32_w]
   rfl
  refine pure_ (i := 2) (N := some 4) (v := ?_) (a' := ?_) #[true, true, true, false, false, false, false, false, false, false, false, false, false, false, false, false, false, false, false, false] rfl rfl (by kernel_rfl) (fun _ _ _ h => h) (Or.inl ⟨by rfl, ?_⟩) ?_ ?_
  rotate_left
  ·intro w'
   go_simp
   with_reducible rfl
  rotate_left
  ·simp only [Act.put, List.setIfInBounds_toArray, List.set_cons_zero, List.set_cons_succ, i64_w, i32_w]
   rfl
  refine pure_ (i := 3) (N := some 5) (v := ?_) (a' := ?_) #[true, true, true, true, false, false, false, false, false, false, false, false, false, false, false, false, false, false, false, false] rfl rfl (by kernel_rfl) (fun _ _ _ h => h) (Or.inl ⟨by rfl, ?_⟩) ?_ ?_
  rotate_left
  ·intro w'
   go_simp
   with_reducible rfl
  rotate_left
  ·simp only [Act.put, List.setIfInBounds_toArray, List.set_cons_zero, List.set_cons_succ, i64_w, i32_w]
   rfl
  refine pure_ (i := 4) (N := some 6) (v := ?_) (a' := ?_) #[true, true, true, true, true, false, false, false, false, false, false, false, false, false, false, false, false, false, false, false] rfl rfl (by kernel_rfl) (fun _ _ _ h => h) (Or.inl ⟨by rfl, ?_⟩) ?_ ?_
  rotate_left
  ·intro w'
   go_simp
   with_reducible rfl
  rotate_left
  ·simp only [Act.put, List.setIfInBounds_toArray, List.set_cons_zero, List.set_cons_succ, i64_w, i32_w]
   rfl
  refine pure_ (i := 5) (N := some 7) (v := ?_) (a' := ?_) #[true, true, true, true, true, true, false, false, false, false, false, false, false, false, false, false, false, false, false, false] rfl rfl (by kernel_rfl) (fun _ _ _ h => h) (Or.inl ⟨by rfl, ?_⟩) ?_ ?_
  rotate_left
  ·intro w'
   go_simp
   with_reducible rfl
  rotate_left
  ·simp only [Act.put, List.setIfInBounds_toArray, List.set_cons_zero, List.set_cons_succ, i64_w, i32_w]
   rfl
  refine pure_ (i := 7) (N := some 9) (v := ?_) (a' := ?_) #[true, true, true, true, true, true, false, true, false, false, false, false, false, false, false, false, false, false, false, false] rfl rfl (by kernel_rfl) (fun _ _ _ h => h) (Or.inl ⟨by rfl, ?_⟩) ?_ ?_
  rotate_left
  ·intro w'
   go_simp
   with_reducible rfl
  rotate_left
  ·simp only [Act.put, List.setIfInBounds_toArray, List.set_cons_zero, List.set_cons_succ, i64_w, i32_w]
   rfl
  refine pure_ (i := 8) (N := some 10) (v := ?_) (a' := ?_) #[true, true, true, true, true, true, false, true, true, false, false, false, false, false, false, false, false, false, false, false] rfl rfl (by kernel_rfl) (fun _ _ _ h => h) (Or.inl ⟨by rfl, ?_⟩) ?_ ?_
  rotate_left
  ·intro w'
   go_simp
   with_reducible rfl
  rotate_left
  ·simp only [Act.put, List.setIfInBounds_toArray, List.set_cons_zero, List.set_cons_succ, i64_w, i32_w]
   rfl
  refine pure_ (i := 9) (N := some 11) (v := ?_) (a' := ?_) #[true, true, true, true, true, true, false, true, true, true, false, false, false, false, false, false, false, false, false, false] rfl rfl (by kernel_rfl) (fun _ _ _ h => h) (Or.inl ⟨by rfl, ?_⟩) ?_ ?_
  rotate_left
  ·intro w'
   go_simp
   with_reducible rfl
  rotate_left
  ·simp only [Act.put, List.setIfInBounds_toArray, List.set_cons_zero, List.set_cons_succ, i64_w, i32_w]
   rfl
  refine take_ (i := 6) (N := some 8) (v := ?_) (a' := ?_) #[true, true, true, true, true, true, true, true, true, true, false, false, false, false, false, false, false, false, false, false] rfl rfl (by kernel_rfl) (fun _ _ _ h => h) (Or.inl ⟨by rfl, ?_⟩) hHeld ?_ ?_
  rotate_left
  ·rintro w' ⟨s0, s1⟩
   go_simp
   with_reducible rfl
  rotate_left
  ·simp only [Act.put, List.setIfInBounds_toArray, List.set_cons_zero, List.set_cons_succ, i64_w, i32_w]
   rfl
  refine take_ (i := 10) (N := some 12) (v := ?_) (a' := ?_) #[true, true, true, true, true, true, true, true, true, true, true, false, false, false, false, false, false, false, false, false] rfl rfl (by kernel_rfl) (fun _ _ _ h => h) (Or.inl ⟨by rfl, ?_⟩) hHeld ?_ ?_
  rotate_left
  ·rintro w' ⟨s0, s1⟩
   go_simp
   with_reducible rfl
  rotate_left
  ·simp only [Act.put, List.setIfInBounds_toArray, List.set_cons_zero, List.set_cons_succ, i64_w, i32_w]
   rfl
  refine pure_ (i := 11) (N := some 13) (v := ?_) (a' := ?_) #[true, true, true, true, true, true, true, true, true, true, true, true, false, false, false, false, false, false, false, false] rfl rfl (by kernel_rfl) (fun _ _ _ h => h) (Or.inl ⟨by rfl, ?_⟩) ?_ ?_
  rotate_left
  ·intro w'
   go_simp
   with_reducible rfl
  rotate_left
  ·simp only [Act.put, List.setIfInBounds_toArray, List.set_cons_zero, List.set_cons_succ, i64_w, i32_w]
   rfl
  refine pure_ (i := 12) (N := some 14) (v := ?_) (a' := ?_) #[true, true, true, true, true, true, true, true, true, true, true, true, true, false, false, false, false, false, false, false] rfl rfl (by kernel_rfl) (fun _ _ _ h => h) (Or.inl ⟨by rfl, ?_⟩) ?_ ?_
  rotate_left
  ·intro w'
   go_simp
   with_reducible rfl
  rotate_left
  ·simp only [Act.put, List.setIfInBounds_toArray, List.set_cons_zero, List.set_cons_succ, i64_w, i32_w]
   rfl
  refine last_ (i := 13) (N := none) #[true, true, true, true, true, true, true, true, true, true, true, true, true, true, false, false, false, false, false, false] rfl rfl (by kernel_rfl) (by decide) (fun K hK => ?_)
  refine skip_ (w1 := ?_) (by rfl) rfl ?_ ?_
  rotate_left
  ·go_simp
   rfl
  refine hK.out _ _ ?_
  clear hK K
  refine pure_ (i := 14) (N := some 15) (v := ?_) (a' := ?_) #[true, true, true, true, true, true, true, true, true, true, true, true, true, true, true, false, false, false, false, false] rfl rfl (by kernel_rfl) (fun _ _ _ h => h) (Or.inl ⟨by rfl, ?_⟩) ?_ ?_
  rotate_left
  ·intro w'
   go_simp
   with_reducible rfl
  rotate_left
  ·simp only [Act.put, List.setIfInBounds_toArray, List.set_cons_zero, List.set_cons_succ, i64_w, i32_w]
   rfl
  refine pure_ (i := 15) (N := some 16) (v := ?_) (a' := ?_) #[true, true, true, true, true, true, true, true, true, true, true, true, true, true, true, true, false, false, false, false] rfl rfl (by kernel_rfl) (fun _ _ _ h => h) (Or.inl ⟨by rfl, ?_⟩) ?_ ?_
  rotate_left
  ·intro w'
   go_simp
   with_reducible rfl
  rotate_left
  ·simp only [Act.put, List.setIfInBounds_toArray, List.set_cons_zero, List.set_cons_succ, i64_w, i32_w]
   rfl
  refine last_ (i := 16) (N := none) #[true, true, true, true, true, true, true, true, true, true, true, true, true, true, true, true, true, false, false, false] rfl rfl (by kernel_rfl) (by decide) (fun K hK => ?_)
  refine skip_ (w1 := ?_) (by rfl) rfl ?_ ?_
  rotate_left
  ·go_simp
   rfl
  refine hK.out _ _ ?_
  clear hK K
  refine pure_ (i := 17) (N := some 17) (v := ?_) (a' := ?_) #[true, true, true, true, true, true, true, true, true, true, true, true, true, true, true, true, true, true, false, false] rfl rfl (by kernel_rfl) (fun _ _ _ h => h) (Or.inl ⟨by rfl, ?_⟩) ?_ ?_
  rotate_left
  ·intro w'
   go_simp
   with_reducible rfl
  rotate_left
  ·simp only [Act.put, List.setIfInBounds_toArray, List.set_cons_zero, List.set_cons_succ, i64_w, i32_w]
   rfl
  refine pure_ (i := 18) (N := some 18) (v := ?_) (a' := ?_) #[true, true, true, true, true, true, true, true, true, true, true, true, true, true, true, true, true, true, true, false] rfl rfl (by kernel_rfl) (fun _ _ _ h => h) (Or.inl ⟨by rfl, ?_⟩) ?_ ?_
  rotate_left
  ·intro w'
   go_simp
   with_reducible rfl
  rotate_left
  ·simp only [Act.put, List.setIfInBounds_toArray, List.set_cons_zero, List.set_cons_succ, i64_w, i32_w]
   rfl
  refine last_ (i := 19) (N := none) #[true, true, true, true, true, true, true, true, true, true, true, true, true, true, true, true, true, true, true, true] rfl rfl (by kernel_rfl) (by decide) (fun K hK => ?_)
  refine skip_ (w1 := ?_) (by rfl) rfl ?_ ?_
  rotate_left
  ·go_simp
   rfl
  refine hK.out _ _ ?_
  clear hK K
  refine done_ (by kernel_rfl) ?_
  go_wp2
  go_end0
  exact ⟨rfl, (((H.out.set_ (a' := { a with exp := true }) 6 (.bool true) rfl).set_ (a' := { a with exp := true, count := a.from_ }) 3 (.int .u16 a.from_) rfl).set_ (a' := { a with exp := true, count := a.from_, on := a.rep }) 4 (.bool a.rep) rfl).drew, ((((Drive.Turn.refl _ _ _).set_ (.inl rfl) H.out.bs _).set_ (.inl rfl) H.out.bs _).set_ (.inl rfl) H.out.bs _).drew⟩
end Go.Proofs.YtaiaapjlpbhlbaaDoor.Ada
