/-
  THE REFERENCE's ADAPTER (its timer never set, its drive without a side): its small functions. By the prover of this repo.
  THE REFERENCE's ADAPTER: what is put. By the prover of this repo.
  THE REFERENCE's ADAPTER: what is got. By the prover of this repo.
  BOTH ADAPTERS' Get, in the same words. By the prover of this repo.
-/
import Derived.Test.YtaiaapjlpbhlbaaDoorAdZa
import Derived.Test.YtaiaapjlpbhlbaaDoorWavR
import Derived.Test.YtaiaapjlpbhlbaaDoorWavY
namespace Go.Proofs.YtaiaapjlpbhlbaaDoor.Ada
open Go.RowKit Go.Proofs.YtaiaapjlpbhlbaaDoorW.PrintWords Go.Proofs.YtaiaapjlpbhlbaaDoorW.PrintLast Go.Proofs.YtaiaapjlpbhlbaaDoorW.PrintMore
set_option linter.unusedVariables false
set_option linter.unusedSimpArgs false
set_option maxRecDepth 20000
def cellsX (gd gw : Nat) (a : A) : Array Value := #[.pointer (some ⟨gd, 0, none⟩), .pointer (some ⟨gw, 0, none⟩), .int .i64 0, .int .i64 0, .int .i64 a.count, .bool a.on, .bool a.rep, .bool a.exp, .int .i64 a.opn, .int .i64 a.ctl, .int .i64 a.inn, .int .i64 a.out, .int .i64 a.wire, .bool a.asks, .bool a.found, .int .i64 a.sum, .int .i64 a.tail]
def cellsM (m : Bool) : Array Value := #[.slice none 0 0, .bool m, .bool false, .int .i64 0, .int .i64 (-1), .bool false, .int .i64 0, .int .i64 0]
structure Q where
  g : Nat
  gd : Nat
  gw : Nat
def FootX (q : Q) (i : Nat) : Prop := i = q.g ∨ i = q.gd ∨ i = q.gw
structure IsX (base : Nat) (W : World) (q : Q) (a : A) (m : Bool) (u : Wave.V) : Prop where
  at_ : Drive.At W q.g 48 (cellsX q.gd q.gw a)
  bs : base ≤ q.g
  dr : Drive.At W q.gd 55 (cellsM m)
  bd : base ≤ q.gd
  wv : Wave.IsR base W q.gw u 0
  ne1 : q.g ≠ q.gd
  ne2 : q.g ≠ q.gw
  ne3 : q.gd ≠ q.gw
section
variable {base : Nat} {W W1 : World} {q : Q} {a : A} {m : Bool} {u : Wave.V}
theorem IsX.cell (h : IsX base W q a m u) (i : Nat) : W.cell? ⟨q.g, i, none⟩ = (cellsX q.gd q.gw a)[i]? := h.at_.cell i
theorem IsX.frozen (h : IsX base W q a m u) (i : Nat) : W.frozen? ⟨q.g, i, none⟩ = false := h.at_.frozen i
theorem IsX.set_ (h : IsX base W q a m u) (i : Nat) (x : Value) {a' : A} (hc : (cellsX q.gd q.gw a).setIfInBounds i x = cellsX q.gd q.gw a') : IsX base (W.setCell ⟨q.g, i, none⟩ x) q a' m u :=
  ⟨by have := h.at_.set_ i x; rwa [hc] at this, h.bs, h.dr.far (Ne.symm h.ne1) x, h.bd, ⟨h.wv.at_.far (Ne.symm h.ne2) x, h.wv.base, h.wv.lt, h.wv.ln, h.wv.lr⟩, h.ne1, h.ne2, h.ne3⟩
theorem IsX.drewN (h : IsX base W q a m u) (n : Nat) : IsX base (W.drewN n) q a m u := ⟨h.at_, h.bs, h.dr, h.bd, h.wv.drewN n, h.ne1, h.ne2, h.ne3⟩
theorem IsX.drew (h : IsX base W q a m u) : IsX base W.drew q a m u := ⟨h.at_, h.bs, h.dr, h.bd, h.wv.drew, h.ne1, h.ne2, h.ne3⟩
theorem IsX.below (h : IsX base W q a m u) (hb : Below W.heap.size W W1) : IsX base W1 q a m u := ⟨h.at_.below hb, h.bs, h.dr.below hb, h.bd, h.wv.below hb, h.ne1, h.ne2, h.ne3⟩
theorem IsX.kept {S : Nat → Prop} (h : IsX base W q a m u) (ht : Drive.Turn base W W1 S) (h1 : ¬ S q.g) (h2 : ¬ S q.gd) (h3 : ¬ S q.gw) : IsX base W1 q a m u :=
  ⟨(ht.kept q.g h.at_.lt h1).trans h.at_, h.bs, (ht.kept q.gd h.dr.lt h2).trans h.dr, h.bd, ⟨(ht.kept q.gw h.wv.at_.lt h3).trans h.wv.at_, h.wv.base, h.wv.lt, h.wv.ln, h.wv.lr⟩, h.ne1, h.ne2, h.ne3⟩
theorem IsX.after_wave (h : IsX base W q a m u) {u' : Wave.V} (hw : Wave.IsR base W1 q.gw u' 0) (ht : Wave.Turn base W W1 (Wave.One q.gw)) : IsX base W1 q a m u' :=
  ⟨(ht.kept q.g h.at_.lt (fun e => h.ne2 e)).trans h.at_, h.bs, (ht.kept q.gd h.dr.lt (fun e => h.ne3 e)).trans h.dr, h.bd, hw, h.ne1, h.ne2, h.ne3⟩
end
theorem x_of_wave {base : Nat} {W W1 : World} {q : Q} (ht : Wave.Turn base W W1 (Wave.One q.gw)) : Drive.Turn base W W1 (FootX q) := ⟨ht.below, fun i hi hn => ht.kept i hi (fun e => hn (.inr (.inr e)))⟩
/-- the program's adapter stays where the reference's turns -/
theorem Is.kept {base : Nat} {W W1 : World} {p : P} {a : A} {d : Drv.D} {u : Wave.V} {S : Nat → Prop} (h : Is base W p a d u) (ht : Drive.Turn base W W1 S) (h1 : ¬ S p.g) (h2 : ¬ S p.gd) (h3 : ¬ S p.gw) (h4 : ∀ k, p.v.ownBlock = some k → ¬ S k) : Is base W1 p a d u :=
  ⟨(ht.kept p.g h.at_.lt h1).trans h.at_, h.bs, ⟨(ht.kept p.gd h.dr.1.lt h2).trans h.dr.1, h.dr.2.1, R_kept h.dr.2.2.1 ht.kept h4, h.dr.2.2.2⟩, ⟨(ht.kept p.gw h.wv.at_.lt h3).trans h.wv.at_, h.wv.base, h.wv.lt, h.wv.ln, h.wv.lr⟩, h.ne1, h.ne2, h.ne3, h.own⟩
theorem beq1 (x : Int) : (x == 1) = decide (x = 1) := by by_cases c : x = 1 <;> simp [c]
theorem has18 (n k : Int) (hn : 0 ≤ n ∧ n < 256) (hk : k = 1 ∨ k = 2 ∨ k = 4 ∨ k = 8 ∨ k = 16 ∨ k = 64 ∨ k = 128) (W : World) : Calls Tryd.prog 55 #[.int .i64 n, .int .i64 k] W fun e W' => e = .returned (.bool (bit n k)) ∧ ∃ m, W' = W.drewN m := by
  rcases hk with rfl | rfl | rfl | rfl | rfl | rfl | rfl
  · have h1 : n.tdiv 1 = n / 1 := Int.tdiv_eq_ediv_of_nonneg hn.1
    have h2 : (n / 1).tmod 2 = n / 1 % 2 := Int.tmod_eq_emod_of_nonneg (by omega)
    have h3 : (n / 1 % 2 == 1) = bit n 1 := beq1 _
    have w1 : wrap64 (n / 1) = n / 1 := Wave.wr64 (by omega) (by omega)
    rw [Int.ediv_one] at h1 h2 h3 w1
    rw [← h3]
    clear hn h3
    go_enter Tryd.func55, Tryd.ntmps55
    go_wp2
    go_ret
    first | exact ⟨rfl, 0, rfl⟩ | exact ⟨rfl, 1, rfl⟩
  · have h1 : n.tdiv 2 = n / 2 := Int.tdiv_eq_ediv_of_nonneg hn.1
    have h2 : (n / 2).tmod 2 = n / 2 % 2 := Int.tmod_eq_emod_of_nonneg (by omega)
    have h3 : (n / 2 % 2 == 1) = bit n 2 := beq1 _
    have w1 : wrap64 (n / 2) = n / 2 := Wave.wr64 (by omega) (by omega)
    rw [← h3]
    clear hn h3
    go_enter Tryd.func55, Tryd.ntmps55
    go_wp2
    go_ret
    first | exact ⟨rfl, 0, rfl⟩ | exact ⟨rfl, 1, rfl⟩
  · have h1 : n.tdiv 4 = n / 4 := Int.tdiv_eq_ediv_of_nonneg hn.1
    have h2 : (n / 4).tmod 2 = n / 4 % 2 := Int.tmod_eq_emod_of_nonneg (by omega)
    have h3 : (n / 4 % 2 == 1) = bit n 4 := beq1 _
    have w1 : wrap64 (n / 4) = n / 4 := Wave.wr64 (by omega) (by omega)
    rw [← h3]
    clear hn h3
    go_enter Tryd.func55, Tryd.ntmps55
    go_wp2
    go_ret
    first | exact ⟨rfl, 0, rfl⟩ | exact ⟨rfl, 1, rfl⟩
  · have h1 : n.tdiv 8 = n / 8 := Int.tdiv_eq_ediv_of_nonneg hn.1
    have h2 : (n / 8).tmod 2 = n / 8 % 2 := Int.tmod_eq_emod_of_nonneg (by omega)
    have h3 : (n / 8 % 2 == 1) = bit n 8 := beq1 _
    have w1 : wrap64 (n / 8) = n / 8 := Wave.wr64 (by omega) (by omega)
    rw [← h3]
    clear hn h3
    go_enter Tryd.func55, Tryd.ntmps55
    go_wp2
    go_ret
    first | exact ⟨rfl, 0, rfl⟩ | exact ⟨rfl, 1, rfl⟩
  · have h1 : n.tdiv 16 = n / 16 := Int.tdiv_eq_ediv_of_nonneg hn.1
    have h2 : (n / 16).tmod 2 = n / 16 % 2 := Int.tmod_eq_emod_of_nonneg (by omega)
    have h3 : (n / 16 % 2 == 1) = bit n 16 := beq1 _
    have w1 : wrap64 (n / 16) = n / 16 := Wave.wr64 (by omega) (by omega)
    rw [← h3]
    clear hn h3
    go_enter Tryd.func55, Tryd.ntmps55
    go_wp2
    go_ret
    first | exact ⟨rfl, 0, rfl⟩ | exact ⟨rfl, 1, rfl⟩
  · have h1 : n.tdiv 64 = n / 64 := Int.tdiv_eq_ediv_of_nonneg hn.1
    have h2 : (n / 64).tmod 2 = n / 64 % 2 := Int.tmod_eq_emod_of_nonneg (by omega)
    have h3 : (n / 64 % 2 == 1) = bit n 64 := beq1 _
    have w1 : wrap64 (n / 64) = n / 64 := Wave.wr64 (by omega) (by omega)
    rw [← h3]
    clear hn h3
    go_enter Tryd.func55, Tryd.ntmps55
    go_wp2
    go_ret
    first | exact ⟨rfl, 0, rfl⟩ | exact ⟨rfl, 1, rfl⟩
  · have h1 : n.tdiv 128 = n / 128 := Int.tdiv_eq_ediv_of_nonneg hn.1
    have h2 : (n / 128).tmod 2 = n / 128 % 2 := Int.tmod_eq_emod_of_nonneg (by omega)
    have h3 : (n / 128 % 2 == 1) = bit n 128 := beq1 _
    have w1 : wrap64 (n / 128) = n / 128 := Wave.wr64 (by omega) (by omega)
    rw [← h3]
    clear hn h3
    go_enter Tryd.func55, Tryd.ntmps55
    go_wp2
    go_ret
    first | exact ⟨rfl, 0, rfl⟩ | exact ⟨rfl, 1, rfl⟩
theorem IsX.setD {base : Nat} {W : World} {q : Q} {a : A} {m m' : Bool} {u : Wave.V} (h : IsX base W q a m u) (i : Nat) (x : Value) (hc : (cellsM m).setIfInBounds i x = cellsM m') : IsX base (W.setCell ⟨q.gd, i, none⟩ x) q a m' u :=
  ⟨h.at_.far h.ne1 x, h.bs, by have := h.dr.set_ i x; rwa [hc] at this, h.bd, ⟨h.wv.at_.far (Ne.symm h.ne3) x, h.wv.base, h.wv.lt, h.wv.ln, h.wv.lr⟩, h.ne1, h.ne2, h.ne3⟩
theorem motor17 (base : Nat) (W : World) (q : Q) (a : A) (m on : Bool) (u : Wave.V) (h : IsX base W q a m u) :
    Calls Tryd.prog 84 #[.pointer (some ⟨q.gd, 0, none⟩), .bool on] W fun e W' => e = .returned (.tuple #[]) ∧ IsX base W' q a on u ∧ Drive.Turn base W W' (FootX q) := by
  have H := Aside0.mk h
  have c1 : W.cell? ⟨q.gd, 1, none⟩ = some (.bool m) := h.dr.cell 1
  have c3 : W.cell? ⟨q.gd, 3, none⟩ = some (.int .i64 0) := h.dr.cell 3
  have f1 := h.dr.frozen 1
  have f3 := h.dr.frozen 3
  have H1 := Aside0.mk (h.setD (m' := m) 3 (.int .i64 0) rfl)
  have k1 : (W.setCell ⟨q.gd, 3, none⟩ (.int .i64 0)).cell? ⟨q.gd, 1, none⟩ = some (.bool m) := H1.out.dr.cell 1
  have g1 := H1.out.dr.frozen 1
  clear h
  cases on <;> cases m
  all_goals
    go_enter Tryd.func84, Tryd.ntmps84
    go_wp2
    go_end0
    first
      | exact ⟨rfl, H.out.setD 1 _ rfl, (Drive.Turn.refl _ _ _).set_ (.inr (.inl rfl)) H.out.bd _⟩
      | exact ⟨rfl, H1.out.setD 1 _ rfl, ((Drive.Turn.refl _ _ _).set_ (.inr (.inl rfl)) H.out.bd _).set_ (.inr (.inl rfl)) H.out.bd _⟩
theorem new17 (W : World) : Calls Tryd.prog 54 #[] W fun e W' => e = .returned (.pointer (some ⟨W.heap.size, 0, none⟩)) ∧ W' = W.alloc (.cells (cellsM false) 55) := by
  go_enter Tryd.func54, Tryd.ntmps54
  go_wp2
  go_ret
  exact ⟨rfl, rfl⟩
theorem newX_calls (base : Nat) (W : World) (hb : base ≤ W.heap.size) : Calls Tryd.prog 15 #[] W fun e W' => ∃ q : Q, e = .returned (.pointer (some ⟨q.g, 0, none⟩)) ∧ IsX base W' q a0 false Wave.v0 ∧ Below W.heap.size W W' ∧ W.heap.size ≤ q.g ∧ W.heap.size ≤ q.gd ∧ W.heap.size ≤ q.gw := by
  go_enter Tryd.func15, Tryd.ntmps15
  go_wp2_with fail
  refine (new17 W).mono ?_
  rintro e w1 ⟨rfl, hw1⟩
  have A1 := Aside0.mk (show Drive.At w1 W.heap.size 55 (cellsM false) by rw [hw1]; exact heap_alloc_new W _)
  have B1 := Aside0.mk (show Below W.heap.size W w1 by rw [hw1]; exact below_alloc (Below.refl _ _) _)
  clear hw1
  have z := Wave.zeroR_run w1
  generalize hz : (Wave.cellsR Wave.v0 0).toArray = cz at *
  go_wp2
  go_ret
  have l1 := A1.out.lt
  have R2 : Drive.At (w1.alloc (.cells cz 90)) w1.heap.size 90 cz := heap_alloc_new w1 _
  have b2 : Below w1.heap.size w1 (w1.alloc (.cells cz 90)) := below_alloc (Below.refl _ _) _
  have sz : (w1.alloc (.cells cz 90)).heap.size = w1.heap.size + 1 := by show (w1.heap.push _).size = _; rw [Array.size_push]
  have s1 := B1.out.size
  have A2 := A1.out.below b2
  generalize w1.alloc (.cells cz 90) = w2 at *
  have b3 : Below w2.heap.size w2 (w2.alloc (.cells (cellsX W.heap.size w1.heap.size a0) 48)) := below_alloc (Below.refl _ _) _
  refine ⟨⟨w2.heap.size, W.heap.size, w1.heap.size⟩, by first | rfl | (rw [sz]; rfl), ⟨heap_alloc_new w2 _, by show base ≤ w2.heap.size; omega, A2.below b3, hb, ⟨by rw [hz]; exact R2.below b3, by show base ≤ w1.heap.size; omega, by decide, by decide, by decide⟩, by show w2.heap.size ≠ W.heap.size; omega, by show w2.heap.size ≠ w1.heap.size; omega, by show W.heap.size ≠ w1.heap.size; omega⟩, ?_, by show W.heap.size ≤ w2.heap.size; omega, Nat.le_refl _, s1⟩
  exact (B1.out.trans (b2.mono s1)).trans (b3.mono (by omega))
end Go.Proofs.YtaiaapjlpbhlbaaDoor.Ada

namespace Go.Proofs.YtaiaapjlpbhlbaaDoor.Ada
open Go.RowKit Go.Proofs.YtaiaapjlpbhlbaaDoorW.PrintWords Go.Proofs.YtaiaapjlpbhlbaaDoorW.PrintLast Go.Proofs.YtaiaapjlpbhlbaaDoorW.PrintMore
set_option linter.unusedVariables false
set_option linter.unusedSimpArgs false
set_option maxRecDepth 20000
set_option maxHeartbeats 4000000 in
theorem command18 (base : Nat) (W : World) (q : Q) (a : A) (m : Bool) (u : Wave.V) (h : IsX base W q a m u) (b : Int) (hb : U8 b) :
    Calls Tryd.prog 56 #[.pointer (some ⟨q.g, 0, none⟩), .int .i64 b] W fun e W' => e = .returned (.tuple #[]) ∧ IsX base W' q (cmdA a b) (bit b 1) u ∧ Drive.Turn base W W' (FootX q) := by
  have H := Aside0.mk h
  have c9 : W.cell? ⟨q.g, 9, none⟩ = some (.int .i64 a.ctl) := h.cell 9
  have f9 := h.frozen 9
  have H1 := Aside0.mk (h.set_ (a' := { a with ctl := b }) 9 (.int .i64 b) rfl)
  have T1 := Aside0.mk ((Drive.Turn.refl base W (FootX q)).set_ (i := 9) (.inl rfl) h.bs (.int .i64 b))
  have HA1 := Aside0.mk (fun (W1 : World) => has18 b 1 hb (by decide) W1)
  have HA2 := Aside0.mk (fun (W1 : World) => has18 b 2 hb (by decide) W1)
  have HA64 := Aside0.mk (fun (W1 : World) => has18 b 64 hb (by decide) W1)
  have HM := Aside0.mk (fun (W1 : World) (h1 : IsX base W1 q { a with ctl := b } m u) => motor17 base W1 q { a with ctl := b } m (bit b 1) u h1)
  unfold cmdA
  generalize bit b 1 = b1 at *
  generalize bit b 2 = b2 at *
  generalize bit b 64 = b64 at *
  clear h hb
  cases b64 <;> cases b2
  all_goals
    go_enter Tryd.func56, Tryd.ntmps56
    go_wp2
    clear c9 f9
    generalize W.setCell ⟨q.g, 9, none⟩ (.int .i64 b) = w1 at *
    refine start_ (n := 7) (S := fun w' => w'.cell? ⟨q.g, 0, none⟩ = some (.pointer (some ⟨q.gd, 0, none⟩))) (ds := [6]) #[false, false, false, false, false, false, false] (by kernel_rfl) rfl rfl (H1.out.drew.cell 0) (fun hHeld => ?_)
    refine pure_ (i := 0) (N := some 8) (v := ?_) (a' := ?_) #[true, false, false, false, false, false, false] rfl rfl (by kernel_rfl) (fun _ _ _ h => h) (Or.inl ⟨by rfl, ?_⟩) ?_ ?_
    rotate_left
    · intro w'
      go_simp
      with_reducible rfl
    rotate_left
    · simp only [Act.put, List.setIfInBounds_toArray, List.set_cons_zero, List.set_cons_succ, i64_w, i32_w]
      rfl
    refine pure_ (i := 1) (N := some 9) (v := ?_) (a' := ?_) #[true, true, false, false, false, false, false] rfl rfl (by kernel_rfl) (fun _ _ _ h => h) (Or.inl ⟨by rfl, ?_⟩) ?_ ?_
    rotate_left
    · intro w'
      go_simp
      with_reducible rfl
    rotate_left
    · simp only [Act.put, List.setIfInBounds_toArray, List.set_cons_zero, List.set_cons_succ, i64_w, i32_w]
      rfl
    refine pure_ (i := 2) (N := some 10) (v := ?_) (a' := ?_) #[true, true, true, false, false, false, false] rfl rfl (by kernel_rfl) (fun _ _ _ h => h) (Or.inl ⟨by rfl, ?_⟩) ?_ ?_
    rotate_left
    · intro w'
      go_simp
      with_reducible rfl
    rotate_left
    · simp only [Act.put, List.setIfInBounds_toArray, List.set_cons_zero, List.set_cons_succ, i64_w, i32_w]
      rfl
    refine pure_ (i := 4) (N := some 12) (v := ?_) (a' := ?_) #[true, true, true, false, true, false, false] rfl rfl (by kernel_rfl) (fun _ _ _ h => h) (Or.inl ⟨by rfl, ?_⟩) ?_ ?_
    rotate_left
    · intro w'
      go_simp
      with_reducible rfl
    rotate_left
    · simp only [Act.put, List.setIfInBounds_toArray, List.set_cons_zero, List.set_cons_succ, i64_w, i32_w]
      rfl
    refine take_ (i := 3) (N := some 11) (v := ?_) (a' := ?_) #[true, true, true, true, true, false, false] rfl rfl (by kernel_rfl) (fun _ _ _ h => h) (Or.inl ⟨by rfl, ?_⟩) hHeld ?_ ?_
    rotate_left
    · intro w' s0
      go_simp
      with_reducible rfl
    rotate_left
    · simp only [Act.put, List.setIfInBounds_toArray, List.set_cons_zero, List.set_cons_succ, i64_w, i32_w]
      rfl
    refine one_ (i := 5) (N := some 13) #[true, true, true, true, true, true, false] rfl rfl (by kernel_rfl) (by decide) (fun K hK => ?_)
    refine goes_ Tryd.func55 (by kernel_rfl) rfl #[.int .i64 b, .int .i64 1] (by rfl) rfl rfl (by simp only [List.map_toArray, List.map_cons, List.map_nil]; rfl) ?_
    with_reducible refine (HA1.out _).mono ?_
    rintro e w5 ⟨rfl, ⟨n5, rfl⟩⟩
    refine ⟨_, rfl, ?_⟩
    refine hK.out _ _ ((H1.out.drew.drewN n5).cell 0) (fun hHeld => ?_)
    clear hK K
    refine norm_ (a' := ?_) ?_ ?_
    rotate_left
    · show Act.put _ (some 13) _ = _
      simp only [Act.put, List.setIfInBounds_toArray, List.set_cons_zero, List.set_cons_succ, i64_w, i32_w]
      rfl
    refine last_ (i := 6) (N := some 14) #[true, true, true, true, true, true, true] rfl rfl (by kernel_rfl) (by decide) (fun K hK => ?_)
    refine goes_ Tryd.func84 (by kernel_rfl) rfl #[.pointer (some ⟨q.gd, 0, none⟩), .bool b1] (by rfl) rfl rfl (by simp only [List.map_toArray, List.map_cons, List.map_nil]; rfl) ?_
    with_reducible refine (HM.out _ (H1.out.drew.drewN n5)).mono ?_
    rintro e w6 ⟨rfl, hi, ht⟩
    refine ⟨_, rfl, ?_⟩
    have H6 := Aside0.mk hi; have T6 := Aside0.mk ((T1.out.drew.drewN n5).trans ht); clear hi ht
    refine hK.out _ _ ?_
    clear hK K
    refine norm_ (a' := ?_) ?_ ?_
    rotate_left
    · show Act.put _ (some 14) _ = _
      simp only [Act.put, List.setIfInBounds_toArray, List.set_cons_zero, List.set_cons_succ, i64_w, i32_w]
      rfl
    refine done_ (by kernel_rfl) ?_
    have H5 := Aside0.mk (fun (n : Nat) => (((H6.out.drewN n).set_ (a' := { a with ctl := b, found := false }) 14 (.bool false) rfl).set_ (a' := { a with ctl := b, found := false, sum := 32768 }) 15 (.int .i64 32768) rfl).set_ (a' := { a with ctl := b, found := false, sum := 32768, tail := 0 }) 16 (.int .i64 0) rfl)
    have T5 := Aside0.mk (fun (n : Nat) => (((T6.out.drewN n).set_ (i := 14) (.inl rfl) H.out.bs (.bool false)).set_ (i := 15) (.inl rfl) H.out.bs (.int .i64 32768)).set_ (i := 16) (.inl rfl) H.out.bs (.int .i64 0))
    have k14 : w6.cell? ⟨q.g, 14, none⟩ = some (.bool a.found) := H6.out.cell 14
    have k15 : w6.cell? ⟨q.g, 15, none⟩ = some (.int .i64 a.sum) := H6.out.cell 15
    have k16 : w6.cell? ⟨q.g, 16, none⟩ = some (.int .i64 a.tail) := H6.out.cell 16
    have f14 := H6.out.frozen 14
    have f15 := H6.out.frozen 15
    have f16 := H6.out.frozen 16
    go_wp2_with fail
    refine (HA64.out _).mono ?_
    rintro e w7 ⟨rfl, ⟨n7, rfl⟩⟩
  · go_wp2
    go_end0
    exact ⟨rfl, H5.out _, T5.out _⟩
  · go_wp2
    go_end0
    exact ⟨rfl, H5.out _, T5.out _⟩
  · go_wp2_with fail
    refine (HA2.out _).mono ?_
    rintro e w8 ⟨rfl, ⟨n8, rfl⟩⟩
    go_wp2
    go_end0
    exact ⟨rfl, H6.out.drewN _, T6.out.drewN _⟩
  · go_wp2_with fail
    refine (HA2.out _).mono ?_
    rintro e w8 ⟨rfl, ⟨n8, rfl⟩⟩
    go_wp2
    go_end0
    exact ⟨rfl, H5.out _, T5.out _⟩
set_option maxHeartbeats 4000000 in
theorem put18_open (base : Nat) (W : World) (q : Q) (a : A) (m : Bool) (u : Wave.V) (h : IsX base W q a m u) (o : Int) (ho : U8 o) :
    Calls Tryd.prog 16 #[.pointer (some ⟨q.g, 0, none⟩), .int .i64 16419, .int .i64 o] W fun e W' => e = .returned (.tuple #[]) ∧ IsX base W' q (shutA a o) (if bit o 1 = true then m else false) u ∧ Drive.Turn base W W' (FootX q) := by
  have H := Aside0.mk h
  have c8 : W.cell? ⟨q.g, 8, none⟩ = some (.int .i64 a.opn) := h.cell 8
  have f8 := h.frozen 8
  have H1 := Aside0.mk (h.set_ (a' := { a with opn := o }) 8 (.int .i64 o) rfl)
  have T1 := Aside0.mk ((Drive.Turn.refl base W (FootX q)).set_ (i := 8) (.inl rfl) h.bs (.int .i64 o))
  have HA1 := Aside0.mk (fun (W1 : World) => has18 o 1 ho (by decide) W1)
  unfold shutA
  generalize bit o 1 = b1 at *
  clear h ho
  go_enter Tryd.func16, Tryd.ntmps16
  go_wp2_with fail
  refine (HA1.out _).mono ?_
  rintro e w5 ⟨rfl, ⟨n5, rfl⟩⟩
  clear c8 f8
  generalize W.setCell ⟨q.g, 8, none⟩ (.int .i64 o) = w1 at *
  cases b1
  · have H2 := Aside0.mk (H1.out.drewN n5)
    have T2 := Aside0.mk (T1.out.drewN n5)
    generalize w1.drewN n5 = w2 at *
    have k5 : w2.cell? ⟨q.g, 5, none⟩ = some (.bool a.on) := H2.out.cell 5
    have k7 : w2.cell? ⟨q.g, 7, none⟩ = some (.bool a.exp) := H2.out.cell 7
    have k13 : w2.cell? ⟨q.g, 13, none⟩ = some (.bool a.asks) := H2.out.cell 13
    have f5 := H2.out.frozen 5
    have f7 := H2.out.frozen 7
    have f13 := H2.out.frozen 13
    have H5 := Aside0.mk (((H2.out.set_ (a' := { a with opn := o, on := false }) 5 (.bool false) rfl).set_ (a' := { a with opn := o, on := false, exp := false }) 7 (.bool false) rfl).set_ (a' := { a with opn := o, on := false, exp := false, asks := false }) 13 (.bool false) rfl)
    have T5 := Aside0.mk (((T2.out.set_ (i := 5) (.inl rfl) H.out.bs (.bool false)).set_ (i := 7) (.inl rfl) H.out.bs (.bool false)).set_ (i := 13) (.inl rfl) H.out.bs (.bool false))
    have HC := Aside0.mk (command18 base _ q _ m u H5.out 0 ⟨by decide, by decide⟩)
    rw [show bit 0 1 = false by decide] at HC
    go_wp2_with fail
    refine HC.out.mono ?_
    rintro e w6 ⟨rfl, hi, ht⟩
    have H6 := Aside0.mk hi; have T6 := Aside0.mk (T5.out.trans ht); clear hi ht
    go_wp2
    first | go_end0 | ((try simp only [Exit.inBlock, Exit.then]); refine bodyPost_ret (results_none rfl _ _ _) rfl ?_)
    exact ⟨rfl, H6.out, T6.out⟩
  · go_wp2
    first | go_end0 | ((try simp only [Exit.inBlock, Exit.then]); refine bodyPost_ret (results_none rfl _ _ _) rfl ?_)
    exact ⟨rfl, H1.out.drewN _, T1.out.drewN _⟩
def putM (a : A) (m : Bool) (x b : Int) : Bool := if 16448 ≤ x then m else if bit a.opn 1 = true then (if x = 16421 then bit b 1 else m) else m
theorem putA_high {a : A} {x b : Int} (h : 16448 ≤ x) : putA a x b = a := by
  unfold putA diskA
  split
  · rfl
  · split
    · rw [if_neg (by omega), if_neg (by omega), if_neg (by omega)]
    · rfl
set_option maxHeartbeats 8000000 in
theorem put18_calls (base : Nat) (W : World) (q : Q) (a : A) (m : Bool) (u : Wave.V) (h : IsX base W q a m u) (ho : U8 a.opn) (hu : Wave.Wf u) (x b : Int) (hx : 16420 ≤ x ∧ x < 65536) (hb : U8 b) :
    Calls Tryd.prog 16 #[.pointer (some ⟨q.g, 0, none⟩), .int .i64 x, .int .i64 b] W fun e W' => e = .returned (.tuple #[]) ∧ IsX base W' q (putA a x b) (putM a m x b) (putU a u x b) ∧ Drive.Turn base W W' (FootX q) := by
  have H := Aside0.mk h
  have c8 : W.cell? ⟨q.g, 8, none⟩ = some (.int .i64 a.opn) := h.cell 8
  have c1 : W.cell? ⟨q.g, 1, none⟩ = some (.pointer (some ⟨q.gw, 0, none⟩)) := h.cell 1
  have t0 : (x == 16416) = false := by rw [beq_eq_false_iff_ne]; omega
  have t1 : (x == 16417) = false := by rw [beq_eq_false_iff_ne]; omega
  have t2 : (x == 16419) = false := by rw [beq_eq_false_iff_ne]; omega
  have HO1 := Aside0.mk (fun (W1 : World) => has18 a.opn 1 ho (by decide) W1)
  have HO2 := Aside0.mk (fun (W1 : World) => has18 a.opn 2 ho (by decide) W1)
  by_cases h1 : 16448 ≤ x
  · have k1 : decide (16448 ≤ x) = true := decide_eq_true h1
    rw [putA_high h1]
    unfold putM putU
    rw [if_pos h1]
    by_cases h2 : x ≤ 16522
    · have k2 : decide (x ≤ 16522) = true := decide_eq_true h2
      have HP := Aside0.mk (fun (W1 : World) (h1 : IsX base W1 q a m u) => Wave.rPut_all base q.gw u 0 W1 h1.wv hu x (by omega) (by omega) b hb)
      have hc : (if 16448 ≤ x ∧ x ≤ 16522 ∧ bit a.opn 2 = true then Wave.putV u x b else u) = (if bit a.opn 2 = true then Wave.putV u x b else u) := by simp [h1, h2]
      rw [hc]
      generalize Wave.putV u x b = u' at *
      generalize bit a.opn 2 = o2 at *
      clear h ho hu hx hb h1 h2 hc
      go_enter Tryd.func16, Tryd.ntmps16
      go_wp2_with fail
      refine (HO2.out _).mono ?_
      rintro e w5 ⟨rfl, ⟨n5, rfl⟩⟩
      cases o2
      · go_wp2
        first | go_end0 | ((try simp only [Exit.inBlock, Exit.then]); refine bodyPost_ret (results_none rfl _ _ _) rfl ?_)
        exact ⟨rfl, H.out.drewN _, (Drive.Turn.refl _ _ _).drewN _⟩
      · go_wp2_with fail
        refine (HP.out _ (H.out.drewN n5)).mono ?_
        rintro e w6 ⟨rfl, hi, ht⟩
        have H6 := Aside0.mk ((H.out.drewN n5).after_wave hi ht); have T6 := Aside0.mk (((Drive.Turn.refl base W (FootX q)).drewN n5).trans (x_of_wave ht)); clear hi ht
        go_wp2
        first | go_end0 | ((try simp only [Exit.inBlock, Exit.then]); refine bodyPost_ret (results_none rfl _ _ _) rfl ?_)
        exact ⟨rfl, H6.out, T6.out⟩
    · have k2 : decide (x ≤ 16522) = false := decide_eq_false h2
      rw [if_neg (fun e => h2 e.2.1)]
      clear h ho hu hx hb h1 h2
      go_enter Tryd.func16, Tryd.ntmps16
      go_wp2
      first | go_end0 | ((try simp only [Exit.inBlock, Exit.then]); refine bodyPost_ret (results_none rfl _ _ _) rfl ?_)
      exact ⟨rfl, H.out, Drive.Turn.refl _ _ _⟩
  · have k1 : decide (16448 ≤ x) = false := decide_eq_false h1
    unfold putA putM putU
    rw [if_neg (show ¬ (16448 ≤ x ∧ x ≤ 16522) from fun e => h1 e.1), if_neg h1, if_neg (show ¬ (16448 ≤ x ∧ x ≤ 16522 ∧ bit a.opn 2 = true) from fun e => h1 e.1)]
    generalize bit a.opn 1 = o1 at *
    have c11 : W.cell? ⟨q.g, 11, none⟩ = some (.int .i64 a.out) := h.cell 11
    have c12 : W.cell? ⟨q.g, 12, none⟩ = some (.int .i64 a.wire) := h.cell 12
    have c13 : W.cell? ⟨q.g, 13, none⟩ = some (.bool a.asks) := h.cell 13
    have f11 := h.frozen 11
    have f12 := h.frozen 12
    have f13 := h.frozen 13
    cases o1
    · clear h ho hu hx hb h1
      go_enter Tryd.func16, Tryd.ntmps16
      go_wp2_with fail
      refine (HO1.out _).mono ?_
      rintro e w5 ⟨rfl, ⟨n5, rfl⟩⟩
      go_wp2
      first | go_end0 | ((try simp only [Exit.inBlock, Exit.then]); refine bodyPost_ret (results_none rfl _ _ _) rfl ?_)
      exact ⟨rfl, H.out.drewN _, (Drive.Turn.refl _ _ _).drewN _⟩
    · have s0 : (x == 16418) = false := by rw [beq_eq_false_iff_ne]; omega
      rw [if_pos rfl, if_pos rfl]
      unfold diskA
      by_cases h2 : x = 16420
      · subst h2
        rw [if_pos rfl, if_neg (show ¬ ((16420 : Int) = 16421) by decide)]
        clear h ho hu hx hb h1 k1 t0 t1 t2 s0
        go_enter Tryd.func16, Tryd.ntmps16
        go_wp2_with fail
        refine (HO1.out _).mono ?_
        rintro e w5 ⟨rfl, ⟨n5, rfl⟩⟩
        go_wp2
        first | go_end0 | ((try simp only [Exit.inBlock, Exit.then]); refine bodyPost_ret (results_none rfl _ _ _) rfl ?_)
        exact ⟨rfl, ((H.out.drewN n5).set_ (a' := { a with out := b }) 11 (.int .i64 b) rfl).set_ 13 (.bool false) rfl, (((Drive.Turn.refl _ _ _).drewN n5).set_ (.inl rfl) H.out.bs _).set_ (.inl rfl) H.out.bs _⟩
      rw [if_neg h2]
      have s1 : (x == 16420) = false := by simpa using h2
      by_cases h3 : x = 16421
      · subst h3
        rw [if_pos rfl, if_pos rfl]
        have HC := Aside0.mk (fun (W1 : World) (h1 : IsX base W1 q a m u) => command18 base W1 q a m u h1 b hb)
        generalize cmdA a b = a' at *
        generalize bit b 1 = b1 at *
        clear h ho hu hx hb h1 k1 t0 t1 t2 s0 s1 h2
        go_enter Tryd.func16, Tryd.ntmps16
        go_wp2_with fail
        refine (HO1.out _).mono ?_
        rintro e w5 ⟨rfl, ⟨n5, rfl⟩⟩
        go_wp2_with fail
        refine (HC.out _ (H.out.drewN n5)).mono ?_
        rintro e w6 ⟨rfl, hi, ht⟩
        have H6 := Aside0.mk hi; have T6 := Aside0.mk (((Drive.Turn.refl base W (FootX q)).drewN n5).trans ht); clear hi ht
        go_wp2
        first | go_end0 | ((try simp only [Exit.inBlock, Exit.then]); refine bodyPost_ret (results_none rfl _ _ _) rfl ?_)
        exact ⟨rfl, H6.out, T6.out⟩
      rw [if_neg h3, if_neg h3]
      have s2 : (x == 16421) = false := by simpa using h3
      by_cases h4 : x = 16422
      · subst h4
        rw [if_pos rfl]
        clear h ho hu hx hb h1 k1 t0 t1 t2 s0 s1 s2 h2 h3
        go_enter Tryd.func16, Tryd.ntmps16
        go_wp2_with fail
        refine (HO1.out _).mono ?_
        rintro e w5 ⟨rfl, ⟨n5, rfl⟩⟩
        go_wp2
        first | go_end0 | ((try simp only [Exit.inBlock, Exit.then]); refine bodyPost_ret (results_none rfl _ _ _) rfl ?_)
        exact ⟨rfl, (H.out.drewN n5).set_ 12 (.int .i64 b) rfl, ((Drive.Turn.refl _ _ _).drewN n5).set_ (.inl rfl) H.out.bs _⟩
      · rw [if_neg h4]
        have s3 : (x == 16422) = false := by simpa using h4
        clear h ho hu hx hb h1 h2 h3 h4
        go_enter Tryd.func16, Tryd.ntmps16
        go_wp2_with fail
        refine (HO1.out _).mono ?_
        rintro e w5 ⟨rfl, ⟨n5, rfl⟩⟩
        go_wp2
        first | go_end0 | ((try simp only [Exit.inBlock, Exit.then]); refine bodyPost_ret (results_none rfl _ _ _) rfl ?_)
        exact ⟨rfl, H.out.drewN _, (Drive.Turn.refl _ _ _).drewN _⟩
end Go.Proofs.YtaiaapjlpbhlbaaDoor.Ada

namespace Go.Proofs.YtaiaapjlpbhlbaaDoor.Ada
open Go.RowKit Go.Proofs.YtaiaapjlpbhlbaaDoorW.PrintWords Go.Proofs.YtaiaapjlpbhlbaaDoorW.PrintLast Go.Proofs.YtaiaapjlpbhlbaaDoorW.PrintMore
set_option linter.unusedVariables false
set_option linter.unusedSimpArgs false
set_option maxRecDepth 20000
theorem goes17 (base : Nat) (W : World) (q : Q) (a : A) (m : Bool) (u : Wave.V) (h : IsX base W q a m u) :
    Calls Tryd.prog 87 #[.pointer (some ⟨q.gd, 0, none⟩)] W fun e W' => e = .returned (.bool false) ∧ W = W' := by
  have c0 : W.cell? ⟨q.gd, 0, none⟩ = some (.slice none 0 0) := h.dr.cell 0
  have c1 : W.cell? ⟨q.gd, 1, none⟩ = some (.bool m) := h.dr.cell 1
  clear h
  cases m
  all_goals
    go_enter Tryd.func87, Tryd.ntmps87
    go_wp2
    go_ret
    exact ⟨rfl, rfl⟩
theorem ready17 (base : Nat) (W : World) (q : Q) (a : A) (m : Bool) (u : Wave.V) (h : IsX base W q a m u) :
    Calls Tryd.prog 59 #[.pointer (some ⟨q.gd, 0, none⟩)] W fun e W' => e = .returned (.bool false) ∧ W = W' := by
  have HG := Aside0.mk (goes17 base W q a m u h)
  clear h
  go_enter Tryd.func59, Tryd.ntmps59
  go_wp2_with fail
  refine HG.out.mono ?_
  rintro e w2 ⟨rfl, rfl⟩
  go_wp2
  go_ret
  exact ⟨rfl, rfl⟩
set_option maxHeartbeats 4000000 in
theorem get18_wave (base : Nat) (W : World) (q : Q) (a : A) (m : Bool) (u : Wave.V) (h : IsX base W q a m u) (ho : U8 a.opn) (hu : Wave.Wf u) (x : Int) (hx : 16448 ≤ x ∧ x < 65536) :
    Calls Tryd.prog 17 #[.pointer (some ⟨q.g, 0, none⟩), .int .i64 x] W fun e W' => e = .returned (.int .i64 (if bit a.opn 2 = true then Wave.getR u x else -1)) ∧ ∃ n, W' = W.drewN n := by
  have H := Aside0.mk h
  have c8 : W.cell? ⟨q.g, 8, none⟩ = some (.int .i64 a.opn) := h.cell 8
  have c1 : W.cell? ⟨q.g, 1, none⟩ = some (.pointer (some ⟨q.gw, 0, none⟩)) := h.cell 1
  have k1 : decide (16448 ≤ x) = true := decide_eq_true hx.1
  have HO2 := Aside0.mk (fun (W1 : World) => has18 a.opn 2 ho (by decide) W1)
  have HG := Aside0.mk (fun (W1 : World) (h1 : IsX base W1 q a m u) => Wave.rget_calls base q.gw u 0 W1 h1.wv hu x (by omega) (by omega))
  generalize Wave.getR u x = y at *
  generalize bit a.opn 2 = o2 at *
  clear h ho hu hx
  go_enter Tryd.func17, Tryd.ntmps17
  go_wp2_with fail
  refine (HO2.out _).mono ?_
  rintro e w5 ⟨rfl, ⟨n5, rfl⟩⟩
  cases o2
  · go_wp2
    go_ret
    exact ⟨by first | rfl | simp, n5, rfl⟩
  · go_wp2_with fail
    refine (HG.out _ (H.out.drewN n5)).mono ?_
    rintro e w6 ⟨rfl, rfl⟩
    go_wp2
    go_ret
    exact ⟨by first | rfl | simp, n5, rfl⟩
theorem get18_shut (base : Nat) (W : World) (q : Q) (a : A) (m : Bool) (u : Wave.V) (h : IsX base W q a m u) (ho : U8 a.opn) (h1 : bit a.opn 1 = false) (x : Int) (hx : x < 16448) :
    Calls Tryd.prog 17 #[.pointer (some ⟨q.g, 0, none⟩), .int .i64 x] W fun e W' => e = .returned (.int .i64 (-1)) ∧ ∃ n, W' = W.drewN n := by
  have c8 : W.cell? ⟨q.g, 8, none⟩ = some (.int .i64 a.opn) := h.cell 8
  have k1 : decide (16448 ≤ x) = false := decide_eq_false (by omega)
  have HO1 := Aside0.mk (fun (W1 : World) => has18 a.opn 1 ho (by decide) W1)
  rw [h1] at HO1
  clear h ho h1 hx
  go_enter Tryd.func17, Tryd.ntmps17
  go_wp2_with fail
  refine (HO1.out _).mono ?_
  rintro e w5 ⟨rfl, ⟨n5, rfl⟩⟩
  go_wp2
  go_ret
  exact ⟨rfl, n5, rfl⟩
set_option maxHeartbeats 4000000 in
theorem get18_other (base : Nat) (W : World) (q : Q) (a : A) (m : Bool) (u : Wave.V) (h : IsX base W q a m u) (ho : U8 a.opn) (h1 : bit a.opn 1 = true) (x : Int) (hx : x < 16448) (hn : x ≠ 16432 ∧ x ≠ 16433 ∧ x ≠ 16434 ∧ x ≠ 16435) :
    Calls Tryd.prog 17 #[.pointer (some ⟨q.g, 0, none⟩), .int .i64 x] W fun e W' => e = .returned (.int .i64 (-1)) ∧ IsX base W' q a m u ∧ Drive.Turn base W W' (FootX q) := by
  have t0 : (x == 16432) = false := by simpa using hn.1
  have t1 : (x == 16433) = false := by simpa using hn.2.1
  have t2 : (x == 16434) = false := by simpa using hn.2.2.1
  have t3 : (x == 16435) = false := by simpa using hn.2.2.2
  have H := Aside0.mk h
  have c8 : W.cell? ⟨q.g, 8, none⟩ = some (.int .i64 a.opn) := h.cell 8
  have k1 : decide (16448 ≤ x) = false := decide_eq_false (by omega)
  have HO1 := Aside0.mk (fun (W1 : World) => has18 a.opn 1 ho (by decide) W1)
  rw [h1] at HO1
  have HRD := Aside0.mk (fun (W1 : World) (h1 : IsX base W1 q a m u) => ready17 base W1 q a m u h1)
  skip
  clear h ho h1 hx hn
  go_enter Tryd.func17, Tryd.ntmps17
  go_wp2_with fail
  refine (HO1.out _).mono ?_
  rintro e w5 ⟨rfl, ⟨n5, rfl⟩⟩
  have HW2 := Aside0.mk (H.out.drewN n5)
  have TW2 := Aside0.mk ((Drive.Turn.refl base W (FootX q)).drewN n5)
  generalize W.drewN n5 = w2 at *
  go_wp2
  refine start_ (n := 16) (S := fun w' => w'.cell? ⟨q.g, 0, none⟩ = some (.pointer (some ⟨q.gd, 0, none⟩)) ∧ w'.cell? ⟨q.gd, 0, none⟩ = some (.slice none 0 0)) (ds := []) #[false, false, false, false, false, false, false, false, false, false, false, false, false, false, false, false] (by kernel_rfl) rfl rfl ⟨HW2.out.drew.cell 0, HW2.out.drew.dr.cell 0⟩ (fun hHeld => ?_)
  refine pure_ (i := 0) (N := some 28) (v := ?_) (a' := ?_) #[true, false, false, false, false, false, false, false, false, false, false, false, false, false, false, false] rfl rfl (by kernel_rfl) (fun _ _ _ h => h) (Or.inl ⟨by rfl, ?_⟩) ?_ ?_
  rotate_left
  · intro w'
    go_simp
    with_reducible rfl
  rotate_left
  · simp only [Act.put, List.setIfInBounds_toArray, List.set_cons_zero, List.set_cons_succ, i64_w, i32_w]
    rfl
  refine pure_ (i := 1) (N := some 29) (v := ?_) (a' := ?_) #[true, true, false, false, false, false, false, false, false, false, false, false, false, false, false, false] rfl rfl (by kernel_rfl) (fun _ _ _ h => h) (Or.inl ⟨by rfl, ?_⟩) ?_ ?_
  rotate_left
  · intro w'
    go_simp
    with_reducible rfl
  rotate_left
  · simp only [Act.put, List.setIfInBounds_toArray, List.set_cons_zero, List.set_cons_succ, i64_w, i32_w]
    rfl
  refine pure_ (i := 2) (N := some 30) (v := ?_) (a' := ?_) #[true, true, true, false, false, false, false, false, false, false, false, false, false, false, false, false] rfl rfl (by kernel_rfl) (fun _ _ _ h => h) (Or.inl ⟨by rfl, ?_⟩) ?_ ?_
  rotate_left
  · intro w'
    go_simp
    with_reducible rfl
  rotate_left
  · simp only [Act.put, List.setIfInBounds_toArray, List.set_cons_zero, List.set_cons_succ, i64_w, i32_w]
    rfl
  refine pure_ (i := 9) (N := some 37) (v := ?_) (a' := ?_) #[true, true, true, false, false, false, false, false, false, true, false, false, false, false, false, false] rfl rfl (by kernel_rfl) (fun _ _ _ h => h) (Or.inl ⟨by rfl, ?_⟩) ?_ ?_
  rotate_left
  · intro w'
    go_simp
    with_reducible rfl
  rotate_left
  · simp only [Act.put, List.setIfInBounds_toArray, List.set_cons_zero, List.set_cons_succ, i64_w, i32_w]
    rfl
  refine pure_ (i := 10) (N := some 38) (v := ?_) (a' := ?_) #[true, true, true, false, false, false, false, false, false, true, true, false, false, false, false, false] rfl rfl (by kernel_rfl) (fun _ _ _ h => h) (Or.inl ⟨by rfl, ?_⟩) ?_ ?_
  rotate_left
  · intro w'
    go_simp
    with_reducible rfl
  rotate_left
  · simp only [Act.put, List.setIfInBounds_toArray, List.set_cons_zero, List.set_cons_succ, i64_w, i32_w]
    rfl
  refine pure_ (i := 11) (N := some 39) (v := ?_) (a' := ?_) #[true, true, true, false, false, false, false, false, false, true, true, true, false, false, false, false] rfl rfl (by kernel_rfl) (fun _ _ _ h => h) (Or.inl ⟨by rfl, ?_⟩) ?_ ?_
  rotate_left
  · intro w'
    go_simp
    with_reducible rfl
  rotate_left
  · simp only [Act.put, List.setIfInBounds_toArray, List.set_cons_zero, List.set_cons_succ, i64_w, i32_w]
    rfl
  refine take_ (i := 3) (N := some 31) (v := ?_) (a' := ?_) #[true, true, true, true, false, false, false, false, false, true, true, true, false, false, false, false] rfl rfl (by kernel_rfl) (fun _ _ _ h => h) (Or.inl ⟨by rfl, ?_⟩) hHeld ?_ ?_
  rotate_left
  · rintro w' ⟨s0, s1⟩
    go_simp
    with_reducible rfl
  rotate_left
  · simp only [Act.put, List.setIfInBounds_toArray, List.set_cons_zero, List.set_cons_succ, i64_w, i32_w]
    rfl
  refine pure_ (i := 4) (N := some 32) (v := ?_) (a' := ?_) #[true, true, true, true, true, false, false, false, false, true, true, true, false, false, false, false] rfl rfl (by kernel_rfl) (fun _ _ _ h => h) (Or.inl ⟨by rfl, ?_⟩) ?_ ?_
  rotate_left
  · intro w'
    go_simp
    with_reducible rfl
  rotate_left
  · simp only [Act.put, List.setIfInBounds_toArray, List.set_cons_zero, List.set_cons_succ, i64_w, i32_w]
    rfl
  refine pure_ (i := 5) (N := some 33) (v := ?_) (a' := ?_) #[true, true, true, true, true, true, false, false, false, true, true, true, false, false, false, false] rfl rfl (by kernel_rfl) (fun _ _ _ h => h) (Or.inl ⟨by rfl, ?_⟩) ?_ ?_
  rotate_left
  · intro w'
    go_simp
    with_reducible rfl
  rotate_left
  · simp only [Act.put, List.setIfInBounds_toArray, List.set_cons_zero, List.set_cons_succ, i64_w, i32_w]
    rfl
  refine take_ (i := 6) (N := some 34) (v := ?_) (a' := ?_) #[true, true, true, true, true, true, true, false, false, true, true, true, false, false, false, false] rfl rfl (by kernel_rfl) (fun _ _ _ h => h) (Or.inl ⟨by rfl, ?_⟩) hHeld ?_ ?_
  rotate_left
  · rintro w' ⟨s0, s1⟩
    go_simp
    with_reducible rfl
  rotate_left
  · simp only [Act.put, List.setIfInBounds_toArray, List.set_cons_zero, List.set_cons_succ, i64_w, i32_w]
    rfl
  refine pure_ (i := 7) (N := some 35) (v := ?_) (a' := ?_) #[true, true, true, true, true, true, true, true, false, true, true, true, false, false, false, false] rfl rfl (by kernel_rfl) (fun _ _ _ h => h) (Or.inl ⟨by rfl, ?_⟩) ?_ ?_
  rotate_left
  · intro w'
    go_simp
    with_reducible rfl
  rotate_left
  · simp only [Act.put, List.setIfInBounds_toArray, List.set_cons_zero, List.set_cons_succ, i64_w, i32_w]
    rfl
  refine pure_ (i := 8) (N := some 36) (v := ?_) (a' := ?_) #[true, true, true, true, true, true, true, true, true, true, true, true, false, false, false, false] rfl rfl (by kernel_rfl) (fun _ _ _ h => h) (Or.inl ⟨by rfl, ?_⟩) ?_ ?_
  rotate_left
  · intro w'
    go_simp
    with_reducible rfl
  rotate_left
  · simp only [Act.put, List.setIfInBounds_toArray, List.set_cons_zero, List.set_cons_succ, i64_w, i32_w]
    rfl
  refine take_ (i := 12) (N := some 40) (v := ?_) (a' := ?_) #[true, true, true, true, true, true, true, true, true, true, true, true, true, false, false, false] rfl rfl (by kernel_rfl) (fun _ _ _ h => h) (Or.inl ⟨by rfl, ?_⟩) hHeld ?_ ?_
  rotate_left
  · rintro w' ⟨s0, s1⟩
    go_simp
    with_reducible rfl
  rotate_left
  · simp only [Act.put, List.setIfInBounds_toArray, List.set_cons_zero, List.set_cons_succ, i64_w, i32_w]
    rfl
  refine one_ (i := 13) (N := some 41) #[true, true, true, true, true, true, true, true, true, true, true, true, true, true, false, false] rfl rfl (by kernel_rfl) (by decide) (fun K hK => ?_)
  refine goes_ Tryd.func59 (by kernel_rfl) rfl #[.pointer (some ⟨q.gd, 0, none⟩)] (by rfl) rfl rfl (by simp only [List.map_toArray, List.map_cons, List.map_nil]; rfl) ?_
  with_reducible refine (HRD.out _ HW2.out.drew).mono ?_
  rintro e w6 ⟨rfl, rfl⟩
  refine ⟨_, rfl, ?_⟩
  refine hK.out _ _ ⟨HW2.out.drew.cell 0, HW2.out.drew.dr.cell 0⟩ (fun hHeld => ?_)
  clear hK K
  refine norm_ (a' := ?_) ?_ ?_
  rotate_left
  · show Act.put _ (some 41) _ = _
    simp only [Act.put, List.setIfInBounds_toArray, List.set_cons_zero, List.set_cons_succ, i64_w, i32_w]
    rfl
  refine pure_ (i := 14) (N := some 6) (v := ?_) (a' := ?_) #[true, true, true, true, true, true, true, true, true, true, true, true, true, true, true, false] rfl rfl (by kernel_rfl) (fun _ _ _ h => h) (Or.inl ⟨by rfl, ?_⟩) ?_ ?_
  rotate_left
  · intro w'
    go_simp
    with_reducible rfl
  rotate_left
  · simp only [Act.put, List.setIfInBounds_toArray, List.set_cons_zero, List.set_cons_succ, i64_w, i32_w]
    rfl
  refine pure_ (i := 15) (N := some 7) (v := ?_) (a' := ?_) #[true, true, true, true, true, true, true, true, true, true, true, true, true, true, true, true] rfl rfl (by kernel_rfl) (fun _ _ _ h => h) (Or.inl ⟨by rfl, ?_⟩) ?_ ?_
  rotate_left
  · intro w'
    go_simp
    with_reducible rfl
  rotate_left
  · simp only [Act.put, List.setIfInBounds_toArray, List.set_cons_zero, List.set_cons_succ, i64_w, i32_w]
    rfl
  refine done_ (by kernel_rfl) ?_
  have H1 := Aside0.mk HW2.out.drew
  have T1 := Aside0.mk TW2.out.drew
  clear c8 HO1 HRD
  generalize w2.drew = w1 at *
  go_wp2
  go_ret
  exact ⟨rfl, H1.out, T1.out⟩
set_option maxHeartbeats 4000000 in
theorem get18_in (base : Nat) (W : World) (q : Q) (a : A) (m : Bool) (u : Wave.V) (h : IsX base W q a m u) (ho : U8 a.opn) (h1 : bit a.opn 1 = true) :
    Calls Tryd.prog 17 #[.pointer (some ⟨q.g, 0, none⟩), .int .i64 16433] W fun e W' => e = .returned (.int .i64 a.inn) ∧ IsX base W' q { a with asks := false } m u ∧ Drive.Turn base W W' (FootX q) := by
  have H := Aside0.mk h
  have c8 : W.cell? ⟨q.g, 8, none⟩ = some (.int .i64 a.opn) := h.cell 8
  have k1 : decide (16448 ≤ (16433 : Int)) = false := decide_eq_false (by omega)
  have HO1 := Aside0.mk (fun (W1 : World) => has18 a.opn 1 ho (by decide) W1)
  rw [h1] at HO1
  have HRD := Aside0.mk (fun (W1 : World) (h1 : IsX base W1 q a m u) => ready17 base W1 q a m u h1)
  skip
  clear h ho h1 
  go_enter Tryd.func17, Tryd.ntmps17
  go_wp2_with fail
  refine (HO1.out _).mono ?_
  rintro e w5 ⟨rfl, ⟨n5, rfl⟩⟩
  have HW2 := Aside0.mk (H.out.drewN n5)
  have TW2 := Aside0.mk ((Drive.Turn.refl base W (FootX q)).drewN n5)
  generalize W.drewN n5 = w2 at *
  go_wp2
  refine start_ (n := 16) (S := fun w' => w'.cell? ⟨q.g, 0, none⟩ = some (.pointer (some ⟨q.gd, 0, none⟩)) ∧ w'.cell? ⟨q.gd, 0, none⟩ = some (.slice none 0 0)) (ds := []) #[false, false, false, false, false, false, false, false, false, false, false, false, false, false, false, false] (by kernel_rfl) rfl rfl ⟨HW2.out.drew.cell 0, HW2.out.drew.dr.cell 0⟩ (fun hHeld => ?_)
  refine pure_ (i := 0) (N := some 28) (v := ?_) (a' := ?_) #[true, false, false, false, false, false, false, false, false, false, false, false, false, false, false, false] rfl rfl (by kernel_rfl) (fun _ _ _ h => h) (Or.inl ⟨by rfl, ?_⟩) ?_ ?_
  rotate_left
  · intro w'
    go_simp
    with_reducible rfl
  rotate_left
  · simp only [Act.put, List.setIfInBounds_toArray, List.set_cons_zero, List.set_cons_succ, i64_w, i32_w]
    rfl
  refine pure_ (i := 1) (N := some 29) (v := ?_) (a' := ?_) #[true, true, false, false, false, false, false, false, false, false, false, false, false, false, false, false] rfl rfl (by kernel_rfl) (fun _ _ _ h => h) (Or.inl ⟨by rfl, ?_⟩) ?_ ?_
  rotate_left
  · intro w'
    go_simp
    with_reducible rfl
  rotate_left
  · simp only [Act.put, List.setIfInBounds_toArray, List.set_cons_zero, List.set_cons_succ, i64_w, i32_w]
    rfl
  refine pure_ (i := 2) (N := some 30) (v := ?_) (a' := ?_) #[true, true, true, false, false, false, false, false, false, false, false, false, false, false, false, false] rfl rfl (by kernel_rfl) (fun _ _ _ h => h) (Or.inl ⟨by rfl, ?_⟩) ?_ ?_
  rotate_left
  · intro w'
    go_simp
    with_reducible rfl
  rotate_left
  · simp only [Act.put, List.setIfInBounds_toArray, List.set_cons_zero, List.set_cons_succ, i64_w, i32_w]
    rfl
  refine pure_ (i := 9) (N := some 37) (v := ?_) (a' := ?_) #[true, true, true, false, false, false, false, false, false, true, false, false, false, false, false, false] rfl rfl (by kernel_rfl) (fun _ _ _ h => h) (Or.inl ⟨by rfl, ?_⟩) ?_ ?_
  rotate_left
  · intro w'
    go_simp
    with_reducible rfl
  rotate_left
  · simp only [Act.put, List.setIfInBounds_toArray, List.set_cons_zero, List.set_cons_succ, i64_w, i32_w]
    rfl
  refine pure_ (i := 10) (N := some 38) (v := ?_) (a' := ?_) #[true, true, true, false, false, false, false, false, false, true, true, false, false, false, false, false] rfl rfl (by kernel_rfl) (fun _ _ _ h => h) (Or.inl ⟨by rfl, ?_⟩) ?_ ?_
  rotate_left
  · intro w'
    go_simp
    with_reducible rfl
  rotate_left
  · simp only [Act.put, List.setIfInBounds_toArray, List.set_cons_zero, List.set_cons_succ, i64_w, i32_w]
    rfl
  refine pure_ (i := 11) (N := some 39) (v := ?_) (a' := ?_) #[true, true, true, false, false, false, false, false, false, true, true, true, false, false, false, false] rfl rfl (by kernel_rfl) (fun _ _ _ h => h) (Or.inl ⟨by rfl, ?_⟩) ?_ ?_
  rotate_left
  · intro w'
    go_simp
    with_reducible rfl
  rotate_left
  · simp only [Act.put, List.setIfInBounds_toArray, List.set_cons_zero, List.set_cons_succ, i64_w, i32_w]
    rfl
  refine take_ (i := 3) (N := some 31) (v := ?_) (a' := ?_) #[true, true, true, true, false, false, false, false, false, true, true, true, false, false, false, false] rfl rfl (by kernel_rfl) (fun _ _ _ h => h) (Or.inl ⟨by rfl, ?_⟩) hHeld ?_ ?_
  rotate_left
  · rintro w' ⟨s0, s1⟩
    go_simp
    with_reducible rfl
  rotate_left
  · simp only [Act.put, List.setIfInBounds_toArray, List.set_cons_zero, List.set_cons_succ, i64_w, i32_w]
    rfl
  refine pure_ (i := 4) (N := some 32) (v := ?_) (a' := ?_) #[true, true, true, true, true, false, false, false, false, true, true, true, false, false, false, false] rfl rfl (by kernel_rfl) (fun _ _ _ h => h) (Or.inl ⟨by rfl, ?_⟩) ?_ ?_
  rotate_left
  · intro w'
    go_simp
    with_reducible rfl
  rotate_left
  · simp only [Act.put, List.setIfInBounds_toArray, List.set_cons_zero, List.set_cons_succ, i64_w, i32_w]
    rfl
  refine pure_ (i := 5) (N := some 33) (v := ?_) (a' := ?_) #[true, true, true, true, true, true, false, false, false, true, true, true, false, false, false, false] rfl rfl (by kernel_rfl) (fun _ _ _ h => h) (Or.inl ⟨by rfl, ?_⟩) ?_ ?_
  rotate_left
  · intro w'
    go_simp
    with_reducible rfl
  rotate_left
  · simp only [Act.put, List.setIfInBounds_toArray, List.set_cons_zero, List.set_cons_succ, i64_w, i32_w]
    rfl
  refine take_ (i := 6) (N := some 34) (v := ?_) (a' := ?_) #[true, true, true, true, true, true, true, false, false, true, true, true, false, false, false, false] rfl rfl (by kernel_rfl) (fun _ _ _ h => h) (Or.inl ⟨by rfl, ?_⟩) hHeld ?_ ?_
  rotate_left
  · rintro w' ⟨s0, s1⟩
    go_simp
    with_reducible rfl
  rotate_left
  · simp only [Act.put, List.setIfInBounds_toArray, List.set_cons_zero, List.set_cons_succ, i64_w, i32_w]
    rfl
  refine pure_ (i := 7) (N := some 35) (v := ?_) (a' := ?_) #[true, true, true, true, true, true, true, true, false, true, true, true, false, false, false, false] rfl rfl (by kernel_rfl) (fun _ _ _ h => h) (Or.inl ⟨by rfl, ?_⟩) ?_ ?_
  rotate_left
  · intro w'
    go_simp
    with_reducible rfl
  rotate_left
  · simp only [Act.put, List.setIfInBounds_toArray, List.set_cons_zero, List.set_cons_succ, i64_w, i32_w]
    rfl
  refine pure_ (i := 8) (N := some 36) (v := ?_) (a' := ?_) #[true, true, true, true, true, true, true, true, true, true, true, true, false, false, false, false] rfl rfl (by kernel_rfl) (fun _ _ _ h => h) (Or.inl ⟨by rfl, ?_⟩) ?_ ?_
  rotate_left
  · intro w'
    go_simp
    with_reducible rfl
  rotate_left
  · simp only [Act.put, List.setIfInBounds_toArray, List.set_cons_zero, List.set_cons_succ, i64_w, i32_w]
    rfl
  refine take_ (i := 12) (N := some 40) (v := ?_) (a' := ?_) #[true, true, true, true, true, true, true, true, true, true, true, true, true, false, false, false] rfl rfl (by kernel_rfl) (fun _ _ _ h => h) (Or.inl ⟨by rfl, ?_⟩) hHeld ?_ ?_
  rotate_left
  · rintro w' ⟨s0, s1⟩
    go_simp
    with_reducible rfl
  rotate_left
  · simp only [Act.put, List.setIfInBounds_toArray, List.set_cons_zero, List.set_cons_succ, i64_w, i32_w]
    rfl
  refine one_ (i := 13) (N := some 41) #[true, true, true, true, true, true, true, true, true, true, true, true, true, true, false, false] rfl rfl (by kernel_rfl) (by decide) (fun K hK => ?_)
  refine goes_ Tryd.func59 (by kernel_rfl) rfl #[.pointer (some ⟨q.gd, 0, none⟩)] (by rfl) rfl rfl (by simp only [List.map_toArray, List.map_cons, List.map_nil]; rfl) ?_
  with_reducible refine (HRD.out _ HW2.out.drew).mono ?_
  rintro e w6 ⟨rfl, rfl⟩
  refine ⟨_, rfl, ?_⟩
  refine hK.out _ _ ⟨HW2.out.drew.cell 0, HW2.out.drew.dr.cell 0⟩ (fun hHeld => ?_)
  clear hK K
  refine norm_ (a' := ?_) ?_ ?_
  rotate_left
  · show Act.put _ (some 41) _ = _
    simp only [Act.put, List.setIfInBounds_toArray, List.set_cons_zero, List.set_cons_succ, i64_w, i32_w]
    rfl
  refine pure_ (i := 14) (N := some 6) (v := ?_) (a' := ?_) #[true, true, true, true, true, true, true, true, true, true, true, true, true, true, true, false] rfl rfl (by kernel_rfl) (fun _ _ _ h => h) (Or.inl ⟨by rfl, ?_⟩) ?_ ?_
  rotate_left
  · intro w'
    go_simp
    with_reducible rfl
  rotate_left
  · simp only [Act.put, List.setIfInBounds_toArray, List.set_cons_zero, List.set_cons_succ, i64_w, i32_w]
    rfl
  refine pure_ (i := 15) (N := some 7) (v := ?_) (a' := ?_) #[true, true, true, true, true, true, true, true, true, true, true, true, true, true, true, true] rfl rfl (by kernel_rfl) (fun _ _ _ h => h) (Or.inl ⟨by rfl, ?_⟩) ?_ ?_
  rotate_left
  · intro w'
    go_simp
    with_reducible rfl
  rotate_left
  · simp only [Act.put, List.setIfInBounds_toArray, List.set_cons_zero, List.set_cons_succ, i64_w, i32_w]
    rfl
  refine done_ (by kernel_rfl) ?_
  have H1 := Aside0.mk HW2.out.drew
  have T1 := Aside0.mk TW2.out.drew
  clear c8 HO1 HRD
  generalize w2.drew = w1 at *
  have k10 : w1.cell? ⟨q.g, 10, none⟩ = some (.int .i64 a.inn) := H1.out.cell 10
  have k13 : w1.cell? ⟨q.g, 13, none⟩ = some (.bool a.asks) := H1.out.cell 13
  have f13 := H1.out.frozen 13
  go_wp2
  go_ret
  exact ⟨rfl, H1.out.set_ 13 (.bool false) rfl, T1.out.set_ (.inl rfl) H1.out.bs _⟩
set_option maxHeartbeats 4000000 in
theorem get18_drv (base : Nat) (W : World) (q : Q) (a : A) (m : Bool) (u : Wave.V) (h : IsX base W q a m u) (ho : U8 a.opn) (h1 : bit a.opn 1 = true) :
    Calls Tryd.prog 17 #[.pointer (some ⟨q.g, 0, none⟩), .int .i64 16434] W fun e W' => e = .returned (.int .i64 71) ∧ IsX base W' q a m u ∧ Drive.Turn base W W' (FootX q) := by
  have H := Aside0.mk h
  have c8 : W.cell? ⟨q.g, 8, none⟩ = some (.int .i64 a.opn) := h.cell 8
  have k1 : decide (16448 ≤ (16434 : Int)) = false := decide_eq_false (by omega)
  have HO1 := Aside0.mk (fun (W1 : World) => has18 a.opn 1 ho (by decide) W1)
  rw [h1] at HO1
  have HRD := Aside0.mk (fun (W1 : World) (h1 : IsX base W1 q a m u) => ready17 base W1 q a m u h1)
  skip
  clear h ho h1 
  go_enter Tryd.func17, Tryd.ntmps17
  go_wp2_with fail
  refine (HO1.out _).mono ?_
  rintro e w5 ⟨rfl, ⟨n5, rfl⟩⟩
  have HW2 := Aside0.mk (H.out.drewN n5)
  have TW2 := Aside0.mk ((Drive.Turn.refl base W (FootX q)).drewN n5)
  generalize W.drewN n5 = w2 at *
  go_wp2
  refine start_ (n := 16) (S := fun w' => w'.cell? ⟨q.g, 0, none⟩ = some (.pointer (some ⟨q.gd, 0, none⟩)) ∧ w'.cell? ⟨q.gd, 0, none⟩ = some (.slice none 0 0)) (ds := []) #[false, false, false, false, false, false, false, false, false, false, false, false, false, false, false, false] (by kernel_rfl) rfl rfl ⟨HW2.out.drew.cell 0, HW2.out.drew.dr.cell 0⟩ (fun hHeld => ?_)
  refine pure_ (i := 0) (N := some 28) (v := ?_) (a' := ?_) #[true, false, false, false, false, false, false, false, false, false, false, false, false, false, false, false] rfl rfl (by kernel_rfl) (fun _ _ _ h => h) (Or.inl ⟨by rfl, ?_⟩) ?_ ?_
  rotate_left
  · intro w'
    go_simp
    with_reducible rfl
  rotate_left
  · simp only [Act.put, List.setIfInBounds_toArray, List.set_cons_zero, List.set_cons_succ, i64_w, i32_w]
    rfl
  refine pure_ (i := 1) (N := some 29) (v := ?_) (a' := ?_) #[true, true, false, false, false, false, false, false, false, false, false, false, false, false, false, false] rfl rfl (by kernel_rfl) (fun _ _ _ h => h) (Or.inl ⟨by rfl, ?_⟩) ?_ ?_
  rotate_left
  · intro w'
    go_simp
    with_reducible rfl
  rotate_left
  · simp only [Act.put, List.setIfInBounds_toArray, List.set_cons_zero, List.set_cons_succ, i64_w, i32_w]
    rfl
  refine pure_ (i := 2) (N := some 30) (v := ?_) (a' := ?_) #[true, true, true, false, false, false, false, false, false, false, false, false, false, false, false, false] rfl rfl (by kernel_rfl) (fun _ _ _ h => h) (Or.inl ⟨by rfl, ?_⟩) ?_ ?_
  rotate_left
  · intro w'
    go_simp
    with_reducible rfl
  rotate_left
  · simp only [Act.put, List.setIfInBounds_toArray, List.set_cons_zero, List.set_cons_succ, i64_w, i32_w]
    rfl
  refine pure_ (i := 9) (N := some 37) (v := ?_) (a' := ?_) #[true, true, true, false, false, false, false, false, false, true, false, false, false, false, false, false] rfl rfl (by kernel_rfl) (fun _ _ _ h => h) (Or.inl ⟨by rfl, ?_⟩) ?_ ?_
  rotate_left
  · intro w'
    go_simp
    with_reducible rfl
  rotate_left
  · simp only [Act.put, List.setIfInBounds_toArray, List.set_cons_zero, List.set_cons_succ, i64_w, i32_w]
    rfl
  refine pure_ (i := 10) (N := some 38) (v := ?_) (a' := ?_) #[true, true, true, false, false, false, false, false, false, true, true, false, false, false, false, false] rfl rfl (by kernel_rfl) (fun _ _ _ h => h) (Or.inl ⟨by rfl, ?_⟩) ?_ ?_
  rotate_left
  · intro w'
    go_simp
    with_reducible rfl
  rotate_left
  · simp only [Act.put, List.setIfInBounds_toArray, List.set_cons_zero, List.set_cons_succ, i64_w, i32_w]
    rfl
  refine pure_ (i := 11) (N := some 39) (v := ?_) (a' := ?_) #[true, true, true, false, false, false, false, false, false, true, true, true, false, false, false, false] rfl rfl (by kernel_rfl) (fun _ _ _ h => h) (Or.inl ⟨by rfl, ?_⟩) ?_ ?_
  rotate_left
  · intro w'
    go_simp
    with_reducible rfl
  rotate_left
  · simp only [Act.put, List.setIfInBounds_toArray, List.set_cons_zero, List.set_cons_succ, i64_w, i32_w]
    rfl
  refine take_ (i := 3) (N := some 31) (v := ?_) (a' := ?_) #[true, true, true, true, false, false, false, false, false, true, true, true, false, false, false, false] rfl rfl (by kernel_rfl) (fun _ _ _ h => h) (Or.inl ⟨by rfl, ?_⟩) hHeld ?_ ?_
  rotate_left
  · rintro w' ⟨s0, s1⟩
    go_simp
    with_reducible rfl
  rotate_left
  · simp only [Act.put, List.setIfInBounds_toArray, List.set_cons_zero, List.set_cons_succ, i64_w, i32_w]
    rfl
  refine pure_ (i := 4) (N := some 32) (v := ?_) (a' := ?_) #[true, true, true, true, true, false, false, false, false, true, true, true, false, false, false, false] rfl rfl (by kernel_rfl) (fun _ _ _ h => h) (Or.inl ⟨by rfl, ?_⟩) ?_ ?_
  rotate_left
  · intro w'
    go_simp
    with_reducible rfl
  rotate_left
  · simp only [Act.put, List.setIfInBounds_toArray, List.set_cons_zero, List.set_cons_succ, i64_w, i32_w]
    rfl
  refine pure_ (i := 5) (N := some 33) (v := ?_) (a' := ?_) #[true, true, true, true, true, true, false, false, false, true, true, true, false, false, false, false] rfl rfl (by kernel_rfl) (fun _ _ _ h => h) (Or.inl ⟨by rfl, ?_⟩) ?_ ?_
  rotate_left
  · intro w'
    go_simp
    with_reducible rfl
  rotate_left
  · simp only [Act.put, List.setIfInBounds_toArray, List.set_cons_zero, List.set_cons_succ, i64_w, i32_w]
    rfl
  refine take_ (i := 6) (N := some 34) (v := ?_) (a' := ?_) #[true, true, true, true, true, true, true, false, false, true, true, true, false, false, false, false] rfl rfl (by kernel_rfl) (fun _ _ _ h => h) (Or.inl ⟨by rfl, ?_⟩) hHeld ?_ ?_
  rotate_left
  · rintro w' ⟨s0, s1⟩
    go_simp
    with_reducible rfl
  rotate_left
  · simp only [Act.put, List.setIfInBounds_toArray, List.set_cons_zero, List.set_cons_succ, i64_w, i32_w]
    rfl
  refine pure_ (i := 7) (N := some 35) (v := ?_) (a' := ?_) #[true, true, true, true, true, true, true, true, false, true, true, true, false, false, false, false] rfl rfl (by kernel_rfl) (fun _ _ _ h => h) (Or.inl ⟨by rfl, ?_⟩) ?_ ?_
  rotate_left
  · intro w'
    go_simp
    with_reducible rfl
  rotate_left
  · simp only [Act.put, List.setIfInBounds_toArray, List.set_cons_zero, List.set_cons_succ, i64_w, i32_w]
    rfl
  refine pure_ (i := 8) (N := some 36) (v := ?_) (a' := ?_) #[true, true, true, true, true, true, true, true, true, true, true, true, false, false, false, false] rfl rfl (by kernel_rfl) (fun _ _ _ h => h) (Or.inl ⟨by rfl, ?_⟩) ?_ ?_
  rotate_left
  · intro w'
    go_simp
    with_reducible rfl
  rotate_left
  · simp only [Act.put, List.setIfInBounds_toArray, List.set_cons_zero, List.set_cons_succ, i64_w, i32_w]
    rfl
  refine take_ (i := 12) (N := some 40) (v := ?_) (a' := ?_) #[true, true, true, true, true, true, true, true, true, true, true, true, true, false, false, false] rfl rfl (by kernel_rfl) (fun _ _ _ h => h) (Or.inl ⟨by rfl, ?_⟩) hHeld ?_ ?_
  rotate_left
  · rintro w' ⟨s0, s1⟩
    go_simp
    with_reducible rfl
  rotate_left
  · simp only [Act.put, List.setIfInBounds_toArray, List.set_cons_zero, List.set_cons_succ, i64_w, i32_w]
    rfl
  refine one_ (i := 13) (N := some 41) #[true, true, true, true, true, true, true, true, true, true, true, true, true, true, false, false] rfl rfl (by kernel_rfl) (by decide) (fun K hK => ?_)
  refine goes_ Tryd.func59 (by kernel_rfl) rfl #[.pointer (some ⟨q.gd, 0, none⟩)] (by rfl) rfl rfl (by simp only [List.map_toArray, List.map_cons, List.map_nil]; rfl) ?_
  with_reducible refine (HRD.out _ HW2.out.drew).mono ?_
  rintro e w6 ⟨rfl, rfl⟩
  refine ⟨_, rfl, ?_⟩
  refine hK.out _ _ ⟨HW2.out.drew.cell 0, HW2.out.drew.dr.cell 0⟩ (fun hHeld => ?_)
  clear hK K
  refine norm_ (a' := ?_) ?_ ?_
  rotate_left
  · show Act.put _ (some 41) _ = _
    simp only [Act.put, List.setIfInBounds_toArray, List.set_cons_zero, List.set_cons_succ, i64_w, i32_w]
    rfl
  refine pure_ (i := 14) (N := some 6) (v := ?_) (a' := ?_) #[true, true, true, true, true, true, true, true, true, true, true, true, true, true, true, false] rfl rfl (by kernel_rfl) (fun _ _ _ h => h) (Or.inl ⟨by rfl, ?_⟩) ?_ ?_
  rotate_left
  · intro w'
    go_simp
    with_reducible rfl
  rotate_left
  · simp only [Act.put, List.setIfInBounds_toArray, List.set_cons_zero, List.set_cons_succ, i64_w, i32_w]
    rfl
  refine pure_ (i := 15) (N := some 7) (v := ?_) (a' := ?_) #[true, true, true, true, true, true, true, true, true, true, true, true, true, true, true, true] rfl rfl (by kernel_rfl) (fun _ _ _ h => h) (Or.inl ⟨by rfl, ?_⟩) ?_ ?_
  rotate_left
  · intro w'
    go_simp
    with_reducible rfl
  rotate_left
  · simp only [Act.put, List.setIfInBounds_toArray, List.set_cons_zero, List.set_cons_succ, i64_w, i32_w]
    rfl
  refine done_ (by kernel_rfl) ?_
  have H1 := Aside0.mk HW2.out.drew
  have T1 := Aside0.mk TW2.out.drew
  clear c8 HO1 HRD
  generalize w2.drew = w1 at *
  go_wp2
  go_ret
  exact ⟨by first | rfl | decide, H1.out, T1.out⟩
set_option maxHeartbeats 4000000 in
theorem get18_wire (base : Nat) (W : World) (q : Q) (a : A) (m : Bool) (u : Wave.V) (h : IsX base W q a m u) (ho : U8 a.opn) (h1 : bit a.opn 1 = true) (hw : U8 a.wire) :
    Calls Tryd.prog 17 #[.pointer (some ⟨q.g, 0, none⟩), .int .i64 16435] W fun e W' => e = .returned (.int .i64 (a.wire % 128 + 128)) ∧ IsX base W' q a m u ∧ Drive.Turn base W W' (FootX q) := by
  have mw : a.wire.tmod 128 = a.wire % 128 := Int.tmod_eq_emod_of_nonneg hw.1
  have ww : wrap64 (a.wire % 128 + 128) = a.wire % 128 + 128 := Wave.wr64 (by omega) (by omega)
  have H := Aside0.mk h
  have c8 : W.cell? ⟨q.g, 8, none⟩ = some (.int .i64 a.opn) := h.cell 8
  have k1 : decide (16448 ≤ (16435 : Int)) = false := decide_eq_false (by omega)
  have HO1 := Aside0.mk (fun (W1 : World) => has18 a.opn 1 ho (by decide) W1)
  rw [h1] at HO1
  have HRD := Aside0.mk (fun (W1 : World) (h1 : IsX base W1 q a m u) => ready17 base W1 q a m u h1)
  skip
  clear h ho h1 hw
  go_enter Tryd.func17, Tryd.ntmps17
  go_wp2_with fail
  refine (HO1.out _).mono ?_
  rintro e w5 ⟨rfl, ⟨n5, rfl⟩⟩
  have HW2 := Aside0.mk (H.out.drewN n5)
  have TW2 := Aside0.mk ((Drive.Turn.refl base W (FootX q)).drewN n5)
  generalize W.drewN n5 = w2 at *
  go_wp2
  refine start_ (n := 16) (S := fun w' => w'.cell? ⟨q.g, 0, none⟩ = some (.pointer (some ⟨q.gd, 0, none⟩)) ∧ w'.cell? ⟨q.gd, 0, none⟩ = some (.slice none 0 0)) (ds := []) #[false, false, false, false, false, false, false, false, false, false, false, false, false, false, false, false] (by kernel_rfl) rfl rfl ⟨HW2.out.drew.cell 0, HW2.out.drew.dr.cell 0⟩ (fun hHeld => ?_)
  refine pure_ (i := 0) (N := some 28) (v := ?_) (a' := ?_) #[true, false, false, false, false, false, false, false, false, false, false, false, false, false, false, false] rfl rfl (by kernel_rfl) (fun _ _ _ h => h) (Or.inl ⟨by rfl, ?_⟩) ?_ ?_
  rotate_left
  · intro w'
    go_simp
    with_reducible rfl
  rotate_left
  · simp only [Act.put, List.setIfInBounds_toArray, List.set_cons_zero, List.set_cons_succ, i64_w, i32_w]
    rfl
  refine pure_ (i := 1) (N := some 29) (v := ?_) (a' := ?_) #[true, true, false, false, false, false, false, false, false, false, false, false, false, false, false, false] rfl rfl (by kernel_rfl) (fun _ _ _ h => h) (Or.inl ⟨by rfl, ?_⟩) ?_ ?_
  rotate_left
  · intro w'
    go_simp
    with_reducible rfl
  rotate_left
  · simp only [Act.put, List.setIfInBounds_toArray, List.set_cons_zero, List.set_cons_succ, i64_w, i32_w]
    rfl
  refine pure_ (i := 2) (N := some 30) (v := ?_) (a' := ?_) #[true, true, true, false, false, false, false, false, false, false, false, false, false, false, false, false] rfl rfl (by kernel_rfl) (fun _ _ _ h => h) (Or.inl ⟨by rfl, ?_⟩) ?_ ?_
  rotate_left
  · intro w'
    go_simp
    with_reducible rfl
  rotate_left
  · simp only [Act.put, List.setIfInBounds_toArray, List.set_cons_zero, List.set_cons_succ, i64_w, i32_w]
    rfl
  refine pure_ (i := 9) (N := some 37) (v := ?_) (a' := ?_) #[true, true, true, false, false, false, false, false, false, true, false, false, false, false, false, false] rfl rfl (by kernel_rfl) (fun _ _ _ h => h) (Or.inl ⟨by rfl, ?_⟩) ?_ ?_
  rotate_left
  · intro w'
    go_simp
    with_reducible rfl
  rotate_left
  · simp only [Act.put, List.setIfInBounds_toArray, List.set_cons_zero, List.set_cons_succ, i64_w, i32_w]
    rfl
  refine pure_ (i := 10) (N := some 38) (v := ?_) (a' := ?_) #[true, true, true, false, false, false, false, false, false, true, true, false, false, false, false, false] rfl rfl (by kernel_rfl) (fun _ _ _ h => h) (Or.inl ⟨by rfl, ?_⟩) ?_ ?_
  rotate_left
  · intro w'
    go_simp
    with_reducible rfl
  rotate_left
  · simp only [Act.put, List.setIfInBounds_toArray, List.set_cons_zero, List.set_cons_succ, i64_w, i32_w]
    rfl
  refine pure_ (i := 11) (N := some 39) (v := ?_) (a' := ?_) #[true, true, true, false, false, false, false, false, false, true, true, true, false, false, false, false] rfl rfl (by kernel_rfl) (fun _ _ _ h => h) (Or.inl ⟨by rfl, ?_⟩) ?_ ?_
  rotate_left
  · intro w'
    go_simp
    with_reducible rfl
  rotate_left
  · simp only [Act.put, List.setIfInBounds_toArray, List.set_cons_zero, List.set_cons_succ, i64_w, i32_w]
    rfl
  refine take_ (i := 3) (N := some 31) (v := ?_) (a' := ?_) #[true, true, true, true, false, false, false, false, false, true, true, true, false, false, false, false] rfl rfl (by kernel_rfl) (fun _ _ _ h => h) (Or.inl ⟨by rfl, ?_⟩) hHeld ?_ ?_
  rotate_left
  · rintro w' ⟨s0, s1⟩
    go_simp
    with_reducible rfl
  rotate_left
  · simp only [Act.put, List.setIfInBounds_toArray, List.set_cons_zero, List.set_cons_succ, i64_w, i32_w]
    rfl
  refine pure_ (i := 4) (N := some 32) (v := ?_) (a' := ?_) #[true, true, true, true, true, false, false, false, false, true, true, true, false, false, false, false] rfl rfl (by kernel_rfl) (fun _ _ _ h => h) (Or.inl ⟨by rfl, ?_⟩) ?_ ?_
  rotate_left
  · intro w'
    go_simp
    with_reducible rfl
  rotate_left
  · simp only [Act.put, List.setIfInBounds_toArray, List.set_cons_zero, List.set_cons_succ, i64_w, i32_w]
    rfl
  refine pure_ (i := 5) (N := some 33) (v := ?_) (a' := ?_) #[true, true, true, true, true, true, false, false, false, true, true, true, false, false, false, false] rfl rfl (by kernel_rfl) (fun _ _ _ h => h) (Or.inl ⟨by rfl, ?_⟩) ?_ ?_
  rotate_left
  · intro w'
    go_simp
    with_reducible rfl
  rotate_left
  · simp only [Act.put, List.setIfInBounds_toArray, List.set_cons_zero, List.set_cons_succ, i64_w, i32_w]
    rfl
  refine take_ (i := 6) (N := some 34) (v := ?_) (a' := ?_) #[true, true, true, true, true, true, true, false, false, true, true, true, false, false, false, false] rfl rfl (by kernel_rfl) (fun _ _ _ h => h) (Or.inl ⟨by rfl, ?_⟩) hHeld ?_ ?_
  rotate_left
  · rintro w' ⟨s0, s1⟩
    go_simp
    with_reducible rfl
  rotate_left
  · simp only [Act.put, List.setIfInBounds_toArray, List.set_cons_zero, List.set_cons_succ, i64_w, i32_w]
    rfl
  refine pure_ (i := 7) (N := some 35) (v := ?_) (a' := ?_) #[true, true, true, true, true, true, true, true, false, true, true, true, false, false, false, false] rfl rfl (by kernel_rfl) (fun _ _ _ h => h) (Or.inl ⟨by rfl, ?_⟩) ?_ ?_
  rotate_left
  · intro w'
    go_simp
    with_reducible rfl
  rotate_left
  · simp only [Act.put, List.setIfInBounds_toArray, List.set_cons_zero, List.set_cons_succ, i64_w, i32_w]
    rfl
  refine pure_ (i := 8) (N := some 36) (v := ?_) (a' := ?_) #[true, true, true, true, true, true, true, true, true, true, true, true, false, false, false, false] rfl rfl (by kernel_rfl) (fun _ _ _ h => h) (Or.inl ⟨by rfl, ?_⟩) ?_ ?_
  rotate_left
  · intro w'
    go_simp
    with_reducible rfl
  rotate_left
  · simp only [Act.put, List.setIfInBounds_toArray, List.set_cons_zero, List.set_cons_succ, i64_w, i32_w]
    rfl
  refine take_ (i := 12) (N := some 40) (v := ?_) (a' := ?_) #[true, true, true, true, true, true, true, true, true, true, true, true, true, false, false, false] rfl rfl (by kernel_rfl) (fun _ _ _ h => h) (Or.inl ⟨by rfl, ?_⟩) hHeld ?_ ?_
  rotate_left
  · rintro w' ⟨s0, s1⟩
    go_simp
    with_reducible rfl
  rotate_left
  · simp only [Act.put, List.setIfInBounds_toArray, List.set_cons_zero, List.set_cons_succ, i64_w, i32_w]
    rfl
  refine one_ (i := 13) (N := some 41) #[true, true, true, true, true, true, true, true, true, true, true, true, true, true, false, false] rfl rfl (by kernel_rfl) (by decide) (fun K hK => ?_)
  refine goes_ Tryd.func59 (by kernel_rfl) rfl #[.pointer (some ⟨q.gd, 0, none⟩)] (by rfl) rfl rfl (by simp only [List.map_toArray, List.map_cons, List.map_nil]; rfl) ?_
  with_reducible refine (HRD.out _ HW2.out.drew).mono ?_
  rintro e w6 ⟨rfl, rfl⟩
  refine ⟨_, rfl, ?_⟩
  refine hK.out _ _ ⟨HW2.out.drew.cell 0, HW2.out.drew.dr.cell 0⟩ (fun hHeld => ?_)
  clear hK K
  refine norm_ (a' := ?_) ?_ ?_
  rotate_left
  · show Act.put _ (some 41) _ = _
    simp only [Act.put, List.setIfInBounds_toArray, List.set_cons_zero, List.set_cons_succ, i64_w, i32_w]
    rfl
  refine pure_ (i := 14) (N := some 6) (v := ?_) (a' := ?_) #[true, true, true, true, true, true, true, true, true, true, true, true, true, true, true, false] rfl rfl (by kernel_rfl) (fun _ _ _ h => h) (Or.inl ⟨by rfl, ?_⟩) ?_ ?_
  rotate_left
  · intro w'
    go_simp
    with_reducible rfl
  rotate_left
  · simp only [Act.put, List.setIfInBounds_toArray, List.set_cons_zero, List.set_cons_succ, i64_w, i32_w]
    rfl
  refine pure_ (i := 15) (N := some 7) (v := ?_) (a' := ?_) #[true, true, true, true, true, true, true, true, true, true, true, true, true, true, true, true] rfl rfl (by kernel_rfl) (fun _ _ _ h => h) (Or.inl ⟨by rfl, ?_⟩) ?_ ?_
  rotate_left
  · intro w'
    go_simp
    with_reducible rfl
  rotate_left
  · simp only [Act.put, List.setIfInBounds_toArray, List.set_cons_zero, List.set_cons_succ, i64_w, i32_w]
    rfl
  refine done_ (by kernel_rfl) ?_
  have H1 := Aside0.mk HW2.out.drew
  have T1 := Aside0.mk TW2.out.drew
  clear c8 HO1 HRD
  generalize w2.drew = w1 at *
  have k12 : w1.cell? ⟨q.g, 12, none⟩ = some (.int .i64 a.wire) := H1.out.cell 12
  go_wp2
  go_ret
  exact ⟨by first | rfl | exact congrArg (fun n => Ending.returned (.int .i64 n)) ww, H1.out, T1.out⟩
set_option maxHeartbeats 8000000 in
theorem get18_status (base : Nat) (W : World) (q : Q) (a : A) (m : Bool) (u : Wave.V) (h : IsX base W q a m u) (ho : U8 a.opn) (h1 : bit a.opn 1 = true) (hc : U8 a.ctl) (hs : 0 ≤ a.sum) :
    Calls Tryd.prog 17 #[.pointer (some ⟨q.g, 0, none⟩), .int .i64 16432] W fun e W' => e = .returned (.int .i64 (statI a.exp a.asks (bit a.ctl 16 && decide (a.sum ≠ 0)) false false)) ∧ IsX base W' q { a with exp := false, asks := false } m u ∧ Drive.Turn base W W' (FootX q) := by
  have HC16 := Aside0.mk (fun (W1 : World) => has18 a.ctl 16 hc (by decide) W1)
  have hsd : decide (0 < a.sum) = decide (a.sum ≠ 0) := by by_cases e : a.sum = 0 <;> simp [e] <;> omega
  obtain ⟨ee, hE⟩ : ∃ ee, a.exp = ee := ⟨_, rfl⟩
  obtain ⟨aa, hA⟩ : ∃ aa, a.asks = aa := ⟨_, rfl⟩
  generalize hz : decide (a.sum ≠ 0) = sz at *
  generalize hcb : bit a.ctl 16 = c16 at *
  rw [hE, hA]
  have HE := Aside0.mk hE
  have HA := Aside0.mk hA
  clear hE hA hz hcb
  have H := Aside0.mk h
  have c8 : W.cell? ⟨q.g, 8, none⟩ = some (.int .i64 a.opn) := h.cell 8
  have k1 : decide (16448 ≤ (16432 : Int)) = false := decide_eq_false (by omega)
  have HO1 := Aside0.mk (fun (W1 : World) => has18 a.opn 1 ho (by decide) W1)
  rw [h1] at HO1
  have HRD := Aside0.mk (fun (W1 : World) (h1 : IsX base W1 q a m u) => ready17 base W1 q a m u h1)
  skip
  clear h ho h1 hc hs
  go_enter Tryd.func17, Tryd.ntmps17
  go_wp2_with fail
  refine (HO1.out _).mono ?_
  rintro e w5 ⟨rfl, ⟨n5, rfl⟩⟩
  have HW2 := Aside0.mk (H.out.drewN n5)
  have TW2 := Aside0.mk ((Drive.Turn.refl base W (FootX q)).drewN n5)
  generalize W.drewN n5 = w2 at *
  go_wp2
  refine start_ (n := 16) (S := fun w' => w'.cell? ⟨q.g, 0, none⟩ = some (.pointer (some ⟨q.gd, 0, none⟩)) ∧ w'.cell? ⟨q.gd, 0, none⟩ = some (.slice none 0 0)) (ds := []) #[false, false, false, false, false, false, false, false, false, false, false, false, false, false, false, false] (by kernel_rfl) rfl rfl ⟨HW2.out.drew.cell 0, HW2.out.drew.dr.cell 0⟩ (fun hHeld => ?_)
  refine pure_ (i := 0) (N := some 28) (v := ?_) (a' := ?_) #[true, false, false, false, false, false, false, false, false, false, false, false, false, false, false, false] rfl rfl (by kernel_rfl) (fun _ _ _ h => h) (Or.inl ⟨by rfl, ?_⟩) ?_ ?_
  rotate_left
  · intro w'
    go_simp
    with_reducible rfl
  rotate_left
  · simp only [Act.put, List.setIfInBounds_toArray, List.set_cons_zero, List.set_cons_succ, i64_w, i32_w]
    rfl
  refine pure_ (i := 1) (N := some 29) (v := ?_) (a' := ?_) #[true, true, false, false, false, false, false, false, false, false, false, false, false, false, false, false] rfl rfl (by kernel_rfl) (fun _ _ _ h => h) (Or.inl ⟨by rfl, ?_⟩) ?_ ?_
  rotate_left
  · intro w'
    go_simp
    with_reducible rfl
  rotate_left
  · simp only [Act.put, List.setIfInBounds_toArray, List.set_cons_zero, List.set_cons_succ, i64_w, i32_w]
    rfl
  refine pure_ (i := 2) (N := some 30) (v := ?_) (a' := ?_) #[true, true, true, false, false, false, false, false, false, false, false, false, false, false, false, false] rfl rfl (by kernel_rfl) (fun _ _ _ h => h) (Or.inl ⟨by rfl, ?_⟩) ?_ ?_
  rotate_left
  · intro w'
    go_simp
    with_reducible rfl
  rotate_left
  · simp only [Act.put, List.setIfInBounds_toArray, List.set_cons_zero, List.set_cons_succ, i64_w, i32_w]
    rfl
  refine pure_ (i := 9) (N := some 37) (v := ?_) (a' := ?_) #[true, true, true, false, false, false, false, false, false, true, false, false, false, false, false, false] rfl rfl (by kernel_rfl) (fun _ _ _ h => h) (Or.inl ⟨by rfl, ?_⟩) ?_ ?_
  rotate_left
  · intro w'
    go_simp
    with_reducible rfl
  rotate_left
  · simp only [Act.put, List.setIfInBounds_toArray, List.set_cons_zero, List.set_cons_succ, i64_w, i32_w]
    rfl
  refine pure_ (i := 10) (N := some 38) (v := ?_) (a' := ?_) #[true, true, true, false, false, false, false, false, false, true, true, false, false, false, false, false] rfl rfl (by kernel_rfl) (fun _ _ _ h => h) (Or.inl ⟨by rfl, ?_⟩) ?_ ?_
  rotate_left
  · intro w'
    go_simp
    with_reducible rfl
  rotate_left
  · simp only [Act.put, List.setIfInBounds_toArray, List.set_cons_zero, List.set_cons_succ, i64_w, i32_w]
    rfl
  refine pure_ (i := 11) (N := some 39) (v := ?_) (a' := ?_) #[true, true, true, false, false, false, false, false, false, true, true, true, false, false, false, false] rfl rfl (by kernel_rfl) (fun _ _ _ h => h) (Or.inl ⟨by rfl, ?_⟩) ?_ ?_
  rotate_left
  · intro w'
    go_simp
    with_reducible rfl
  rotate_left
  · simp only [Act.put, List.setIfInBounds_toArray, List.set_cons_zero, List.set_cons_succ, i64_w, i32_w]
    rfl
  refine take_ (i := 3) (N := some 31) (v := ?_) (a' := ?_) #[true, true, true, true, false, false, false, false, false, true, true, true, false, false, false, false] rfl rfl (by kernel_rfl) (fun _ _ _ h => h) (Or.inl ⟨by rfl, ?_⟩) hHeld ?_ ?_
  rotate_left
  · rintro w' ⟨s0, s1⟩
    go_simp
    with_reducible rfl
  rotate_left
  · simp only [Act.put, List.setIfInBounds_toArray, List.set_cons_zero, List.set_cons_succ, i64_w, i32_w]
    rfl
  refine pure_ (i := 4) (N := some 32) (v := ?_) (a' := ?_) #[true, true, true, true, true, false, false, false, false, true, true, true, false, false, false, false] rfl rfl (by kernel_rfl) (fun _ _ _ h => h) (Or.inl ⟨by rfl, ?_⟩) ?_ ?_
  rotate_left
  · intro w'
    go_simp
    with_reducible rfl
  rotate_left
  · simp only [Act.put, List.setIfInBounds_toArray, List.set_cons_zero, List.set_cons_succ, i64_w, i32_w]
    rfl
  refine pure_ (i := 5) (N := some 33) (v := ?_) (a' := ?_) #[true, true, true, true, true, true, false, false, false, true, true, true, false, false, false, false] rfl rfl (by kernel_rfl) (fun _ _ _ h => h) (Or.inl ⟨by rfl, ?_⟩) ?_ ?_
  rotate_left
  · intro w'
    go_simp
    with_reducible rfl
  rotate_left
  · simp only [Act.put, List.setIfInBounds_toArray, List.set_cons_zero, List.set_cons_succ, i64_w, i32_w]
    rfl
  refine take_ (i := 6) (N := some 34) (v := ?_) (a' := ?_) #[true, true, true, true, true, true, true, false, false, true, true, true, false, false, false, false] rfl rfl (by kernel_rfl) (fun _ _ _ h => h) (Or.inl ⟨by rfl, ?_⟩) hHeld ?_ ?_
  rotate_left
  · rintro w' ⟨s0, s1⟩
    go_simp
    with_reducible rfl
  rotate_left
  · simp only [Act.put, List.setIfInBounds_toArray, List.set_cons_zero, List.set_cons_succ, i64_w, i32_w]
    rfl
  refine pure_ (i := 7) (N := some 35) (v := ?_) (a' := ?_) #[true, true, true, true, true, true, true, true, false, true, true, true, false, false, false, false] rfl rfl (by kernel_rfl) (fun _ _ _ h => h) (Or.inl ⟨by rfl, ?_⟩) ?_ ?_
  rotate_left
  · intro w'
    go_simp
    with_reducible rfl
  rotate_left
  · simp only [Act.put, List.setIfInBounds_toArray, List.set_cons_zero, List.set_cons_succ, i64_w, i32_w]
    rfl
  refine pure_ (i := 8) (N := some 36) (v := ?_) (a' := ?_) #[true, true, true, true, true, true, true, true, true, true, true, true, false, false, false, false] rfl rfl (by kernel_rfl) (fun _ _ _ h => h) (Or.inl ⟨by rfl, ?_⟩) ?_ ?_
  rotate_left
  · intro w'
    go_simp
    with_reducible rfl
  rotate_left
  · simp only [Act.put, List.setIfInBounds_toArray, List.set_cons_zero, List.set_cons_succ, i64_w, i32_w]
    rfl
  refine take_ (i := 12) (N := some 40) (v := ?_) (a' := ?_) #[true, true, true, true, true, true, true, true, true, true, true, true, true, false, false, false] rfl rfl (by kernel_rfl) (fun _ _ _ h => h) (Or.inl ⟨by rfl, ?_⟩) hHeld ?_ ?_
  rotate_left
  · rintro w' ⟨s0, s1⟩
    go_simp
    with_reducible rfl
  rotate_left
  · simp only [Act.put, List.setIfInBounds_toArray, List.set_cons_zero, List.set_cons_succ, i64_w, i32_w]
    rfl
  refine one_ (i := 13) (N := some 41) #[true, true, true, true, true, true, true, true, true, true, true, true, true, true, false, false] rfl rfl (by kernel_rfl) (by decide) (fun K hK => ?_)
  refine goes_ Tryd.func59 (by kernel_rfl) rfl #[.pointer (some ⟨q.gd, 0, none⟩)] (by rfl) rfl rfl (by simp only [List.map_toArray, List.map_cons, List.map_nil]; rfl) ?_
  with_reducible refine (HRD.out _ HW2.out.drew).mono ?_
  rintro e w6 ⟨rfl, rfl⟩
  refine ⟨_, rfl, ?_⟩
  refine hK.out _ _ ⟨HW2.out.drew.cell 0, HW2.out.drew.dr.cell 0⟩ (fun hHeld => ?_)
  clear hK K
  refine norm_ (a' := ?_) ?_ ?_
  rotate_left
  · show Act.put _ (some 41) _ = _
    simp only [Act.put, List.setIfInBounds_toArray, List.set_cons_zero, List.set_cons_succ, i64_w, i32_w]
    rfl
  refine pure_ (i := 14) (N := some 6) (v := ?_) (a' := ?_) #[true, true, true, true, true, true, true, true, true, true, true, true, true, true, true, false] rfl rfl (by kernel_rfl) (fun _ _ _ h => h) (Or.inl ⟨by rfl, ?_⟩) ?_ ?_
  rotate_left
  · intro w'
    go_simp
    with_reducible rfl
  rotate_left
  · simp only [Act.put, List.setIfInBounds_toArray, List.set_cons_zero, List.set_cons_succ, i64_w, i32_w]
    rfl
  refine pure_ (i := 15) (N := some 7) (v := ?_) (a' := ?_) #[true, true, true, true, true, true, true, true, true, true, true, true, true, true, true, true] rfl rfl (by kernel_rfl) (fun _ _ _ h => h) (Or.inl ⟨by rfl, ?_⟩) ?_ ?_
  rotate_left
  · intro w'
    go_simp
    with_reducible rfl
  rotate_left
  · simp only [Act.put, List.setIfInBounds_toArray, List.set_cons_zero, List.set_cons_succ, i64_w, i32_w]
    rfl
  refine done_ (by kernel_rfl) ?_
  have H1 := Aside0.mk HW2.out.drew
  have T1 := Aside0.mk TW2.out.drew
  clear c8 HO1 HRD
  generalize w2.drew = w1 at *
  have k7 : w1.cell? ⟨q.g, 7, none⟩ = some (.bool ee) := by rw [← HE.out]; exact H1.out.cell 7
  have k9 : w1.cell? ⟨q.g, 9, none⟩ = some (.int .i64 a.ctl) := H1.out.cell 9
  have k13 : w1.cell? ⟨q.g, 13, none⟩ = some (.bool aa) := by rw [← HA.out]; exact H1.out.cell 13
  have k15 : w1.cell? ⟨q.g, 15, none⟩ = some (.int .i64 a.sum) := H1.out.cell 15
  have f7 := H1.out.frozen 7
  have f13 := H1.out.frozen 13
  have H5 := Aside0.mk (fun (n : Nat) => ((H1.out.drewN n).set_ (a' := { a with exp := false }) 7 (.bool false) rfl).set_ (a' := { a with exp := false, asks := false }) 13 (.bool false) rfl)
  have T5 := Aside0.mk (fun (n : Nat) => ((T1.out.drewN n).set_ (i := 7) (.inl rfl) H1.out.bs (.bool false)).set_ (i := 13) (.inl rfl) H1.out.bs (.bool false))
  cases ee <;> cases aa <;> cases c16 <;> cases sz
  all_goals
    go_wp2_with fail
    refine (HC16.out _).mono ?_
    rintro e w7 ⟨rfl, ⟨n7, rfl⟩⟩
    go_wp2
    go_ret
    exact ⟨by first | rfl | decide, H5.out _, T5.out _⟩
end Go.Proofs.YtaiaapjlpbhlbaaDoor.Ada

namespace Go.Proofs.YtaiaapjlpbhlbaaDoor.Ada
open Go.RowKit Go.Proofs.YtaiaapjlpbhlbaaDoorW.PrintWords Go.Proofs.YtaiaapjlpbhlbaaDoorW.PrintLast Go.Proofs.YtaiaapjlpbhlbaaDoorW.PrintMore
set_option linter.unusedVariables false
set_option linter.unusedSimpArgs false
set_option maxRecDepth 20000
theorem getV_some {v : Wave.V} (h : Wave.Wf v) (a : Int) (hk : (Wave.getV v a).2 = true) : 0 ≤ (Wave.getV v a).1 ∧ (Wave.getV v a).1 < 256 := by
  unfold Wave.getV at *
  split
  · have := h.table (a - 16448); dsimp only; omega
  · split
    · have := h.vgain; dsimp only; omega
    · split
      · have := h.mgain; dsimp only; omega
      · decide
theorem getV_none {v : Wave.V} (a : Int) (hk : ¬ (Wave.getV v a).2 = true) : (Wave.getV v a).1 = 0 := by
  unfold Wave.getV at *
  split
  · rename_i h1; rw [if_pos h1] at hk; exact absurd rfl hk
  · rename_i h1
    rw [if_neg h1] at hk
    split
    · rename_i h2; rw [if_pos h2] at hk; exact absurd rfl hk
    · rename_i h2
      rw [if_neg h2] at hk
      split
      · rename_i h3; rw [if_pos h3] at hk; exact absurd rfl hk
      · rfl
/-- what is got: below 0 nothing -/
def getN (a : A) (u : Wave.V) (x : Int) : Int :=
  if 16448 ≤ x then (if bit a.opn 2 = true then Wave.getR u x else -1)
  else if bit a.opn 1 = false then -1
  else if x = 16432 then statI a.exp a.asks (bit a.ctl 16 && decide (a.sum ≠ 0)) false false
  else if x = 16433 then a.inn
  else if x = 16434 then 71
  else if x = 16435 then a.wire % 128 + 128
  else -1
def getS (a : A) (x : Int) : A :=
  if 16448 ≤ x then a else if bit a.opn 1 = false then a
  else if x = 16432 then { a with exp := false, asks := false } else if x = 16433 then { a with asks := false } else a
structure Fine (a : A) : Prop where
  opn : U8 a.opn
  ctl : U8 a.ctl
  inn : U8 a.inn
  wire : U8 a.wire
  sum : 0 ≤ a.sum
theorem statI_range (e s x r h : Bool) : 0 ≤ statI e s x r h ∧ statI e s x r h < 256 := by
  cases e <;> cases s <;> cases x <;> cases r <;> cases h <;> decide
theorem getR_range {u : Wave.V} (h : Wave.Wf u) (x : Int) : -1 ≤ Wave.getR u x ∧ Wave.getR u x < 256 := by
  unfold Wave.getR
  by_cases hk : (Wave.getV u x).2 = true
  · rw [if_pos hk]
    have := getV_some h x hk
    omega
  · rw [if_neg hk]
    decide
theorem getN_range {a : A} (h : Fine a) {u : Wave.V} (hu : Wave.Wf u) (x : Int) : -1 ≤ getN a u x ∧ getN a u x < 256 ∧ (0 ≤ getN a u x → (x < 16448 → bit a.opn 1 = true) ∧ (16448 ≤ x → bit a.opn 2 = true)) := by
  have hr := getR_range hu x
  have hs := statI_range a.exp a.asks (bit a.ctl 16 && decide (a.sum ≠ 0)) false false
  have hi := h.inn
  have hw := h.wire
  obtain ⟨i0, i1⟩ := hi
  obtain ⟨w0, w1⟩ := hw
  unfold getN
  by_cases h1 : 16448 ≤ x
  · rw [if_pos h1]
    by_cases h2 : bit a.opn 2 = true
    · rw [if_pos h2]
      exact ⟨hr.1, hr.2, fun _ => ⟨fun e => by omega, fun _ => h2⟩⟩
    · rw [if_neg h2]
      exact ⟨by decide, by decide, fun e => absurd e (by decide)⟩
  · rw [if_neg h1]
    by_cases h2 : bit a.opn 1 = false
    · rw [if_pos h2]
      exact ⟨by decide, by decide, fun e => absurd e (by decide)⟩
    · rw [if_neg h2]
      have h2' : bit a.opn 1 = true := by simpa using h2
      refine ⟨?_, ?_, fun _ => ⟨fun _ => h2', fun e => absurd e h1⟩⟩
      · split
        · omega
        · split
          · omega
          · split
            · decide
            · split <;> omega
      · split
        · omega
        · split
          · omega
          · split
            · decide
            · split <;> omega
def posB (n : Int) : Int × Bool := if n = -1 then (0, false) else (n, true)
theorem get_calls (base : Nat) (W : World) (p : P) (a : A) (d : Drv.D) (u : Wave.V) (h : Is base W p a d u) (hf : Fine a) (hu : Wave.Wf u) (hd : Drive.hasB d = false ∧ Drive.readyB d = false) (x : Int) (hx : 16416 ≤ x ∧ x < 16532) :
    Calls Tryd.prog 14 #[.pointer (some ⟨p.g, 0, none⟩), .int .u16 x] W fun e W' => e = .returned (.tuple #[.int .u8 (posB (getN a u x)).1, .bool (posB (getN a u x)).2]) ∧ Is base W' p (getS a x) d u ∧ Turn base W W' (Foot p) := by
  unfold getN getS
  by_cases h1 : 16448 ≤ x
  · rw [if_pos h1, if_pos h1]
    by_cases h2 : x ≤ 16530
    · refine (get_wave base W p a d u h hf.opn hu x ⟨h1, h2⟩).mono ?_
      rintro e W' ⟨rfl, rfl⟩
      refine ⟨?_, h, Drive.Turn.refl _ _ _⟩
      cases bit a.opn 2
      · rfl
      · rw [if_pos rfl, if_pos rfl, if_pos rfl]
        unfold posB Wave.getR
        by_cases hk : (Wave.getV u x).2 = true
        · have := getV_some hu x hk
          rw [if_pos hk, if_neg (by omega), hk]
        · rw [if_neg hk, if_pos rfl, getV_none x hk, Bool.eq_false_iff.2 hk]
    · have hg : Wave.getR u x = -1 := by
        have hv : Wave.getV u x = (0, false) := by
          unfold Wave.getV
          rw [if_neg (by omega), if_neg (by omega), if_neg (by omega)]
        unfold Wave.getR
        rw [hv]
        rfl
      rw [hg, show (if bit a.opn 2 = true then (-1 : Int) else -1) = -1 by split <;> rfl]
      cases h3 : bit a.opn 1
      · refine (get_shut2 base W p a d u h hf.opn h3 x (by omega)).mono ?_
        rintro e W' ⟨rfl, rfl⟩
        exact ⟨rfl, h, Drive.Turn.refl _ _ _⟩
      · refine (get_other base W p a d u h hf.opn h3 x (.inr (by omega)) ⟨by omega, by omega, by omega, by omega⟩).mono ?_
        rintro e W' ⟨rfl, hi, ht⟩
        exact ⟨rfl, hi, ht⟩
  · rw [if_neg h1, if_neg h1]
    cases h3 : bit a.opn 1
    · refine (get_shut base W p a d u h hf.opn h3 x (by omega)).mono ?_
      rintro e W' ⟨rfl, rfl⟩
      exact ⟨rfl, h, Drive.Turn.refl _ _ _⟩
    · rw [if_neg (show ¬ (true = false) by decide), if_neg (show ¬ (true = false) by decide)]
      by_cases e1 : x = 16432
      · subst e1
        rw [if_pos rfl, if_pos rfl]
        refine (get_status base W p a d u h hf.opn h3 hf.ctl).mono ?_
        rintro e W' ⟨rfl, hi, ht⟩
        refine ⟨?_, hi, ht⟩
        unfold statA
        rw [hd.1, hd.2]
        have := statI_range a.exp a.asks (bit a.ctl 16 && decide (a.sum ≠ 0)) false false
        unfold posB
        rw [if_neg (by omega)]
      rw [if_neg e1, if_neg e1]
      by_cases e2 : x = 16433
      · subst e2
        rw [if_pos rfl, if_pos rfl]
        refine (get_in base W p a d u h hf.opn h3).mono ?_
        rintro e W' ⟨rfl, hi, ht⟩
        refine ⟨?_, hi, ht⟩
        have := hf.inn.1
        unfold posB
        rw [if_neg (by omega)]
      rw [if_neg e2, if_neg e2]
      by_cases e3 : x = 16434
      · subst e3
        rw [if_pos rfl]
        refine (get_drv base W p a d u h hf.opn h3).mono ?_
        rintro e W' ⟨rfl, hi, ht⟩
        refine ⟨?_, hi, ht⟩
        rw [hd.1, hd.2]
        rfl
      rw [if_neg e3]
      by_cases e4 : x = 16435
      · subst e4
        rw [if_pos rfl]
        refine (get_wire base W p a d u h hf.opn h3 hf.wire).mono ?_
        rintro e W' ⟨rfl, hi, ht⟩
        refine ⟨?_, hi, ht⟩
        have := hf.wire.1
        unfold posB
        rw [if_neg (by omega)]
      · rw [if_neg e4]
        refine (get_other base W p a d u h hf.opn h3 x (.inl (by omega)) ⟨e1, e2, e3, e4⟩).mono ?_
        rintro e W' ⟨rfl, hi, ht⟩
        exact ⟨rfl, hi, ht⟩
theorem get18_calls (base : Nat) (W : World) (q : Q) (a : A) (m : Bool) (u : Wave.V) (h : IsX base W q a m u) (hf : Fine a) (hu : Wave.Wf u) (x : Int) (hx : 16416 ≤ x ∧ x < 16532) :
    Calls Tryd.prog 17 #[.pointer (some ⟨q.g, 0, none⟩), .int .i64 x] W fun e W' => e = .returned (.int .i64 (getN a u x)) ∧ IsX base W' q (getS a x) m u ∧ Drive.Turn base W W' (FootX q) := by
  unfold getN getS
  by_cases h1 : 16448 ≤ x
  · rw [if_pos h1, if_pos h1]
    refine (get18_wave base W q a m u h hf.opn hu x ⟨h1, by omega⟩).mono ?_
    rintro e W' ⟨rfl, n, rfl⟩
    exact ⟨rfl, h.drewN n, (Drive.Turn.refl _ _ _).drewN n⟩
  · rw [if_neg h1, if_neg h1]
    cases h3 : bit a.opn 1
    · refine (get18_shut base W q a m u h hf.opn h3 x (by omega)).mono ?_
      rintro e W' ⟨rfl, n, rfl⟩
      exact ⟨rfl, h.drewN n, (Drive.Turn.refl _ _ _).drewN n⟩
    · rw [if_neg (show ¬ (true = false) by decide), if_neg (show ¬ (true = false) by decide)]
      by_cases e1 : x = 16432
      · subst e1
        rw [if_pos rfl, if_pos rfl]
        exact get18_status base W q a m u h hf.opn h3 hf.ctl hf.sum
      rw [if_neg e1, if_neg e1]
      by_cases e2 : x = 16433
      · subst e2
        rw [if_pos rfl, if_pos rfl]
        exact get18_in base W q a m u h hf.opn h3
      rw [if_neg e2, if_neg e2]
      by_cases e3 : x = 16434
      · subst e3
        rw [if_pos rfl]
        exact get18_drv base W q a m u h hf.opn h3
      rw [if_neg e3]
      by_cases e4 : x = 16435
      · subst e4
        rw [if_pos rfl]
        exact get18_wire base W q a m u h hf.opn h3 hf.wire
      · rw [if_neg e4]
        exact get18_other base W q a m u h hf.opn h3 x (by omega) ⟨e1, e2, e3, e4⟩
theorem getS_fine {a : A} (h : Fine a) (x : Int) : Fine (getS a x) := by
  unfold getS
  split
  · exact h
  · split
    · exact h
    · split
      · exact ⟨h.opn, h.ctl, h.inn, h.wire, h.sum⟩
      · split
        · exact ⟨h.opn, h.ctl, h.inn, h.wire, h.sum⟩
        · exact h
theorem getS_opn (a : A) (x : Int) : (getS a x).opn = a.opn ∧ (getS a x).ctl = a.ctl := by
  unfold getS
  split
  · exact ⟨rfl, rfl⟩
  · split
    · exact ⟨rfl, rfl⟩
    · split
      · exact ⟨rfl, rfl⟩
      · split <;> exact ⟨rfl, rfl⟩
end Go.Proofs.YtaiaapjlpbhlbaaDoor.Ada
