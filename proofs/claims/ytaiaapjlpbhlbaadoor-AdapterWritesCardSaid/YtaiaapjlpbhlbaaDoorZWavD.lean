/-
 PUT: the registers that set more than a number. By the prover of this repo.
-/
import Derived.Test.YtaiaapjlpbhlbaaDoorZWavC
namespace Go.Proofs.YtaiaapjlpbhlbaaDoor.Wave
open Go.RowKit Go.Proofs.YtaiaapjlpbhlbaaDoorW.PrintWords Go.Proofs.YtaiaapjlpbhlbaaDoorW.PrintLast Go.Proofs.YtaiaapjlpbhlbaaDoorW.PrintMore
set_option linter.unusedVariables false
set_option linter.unusedSimpArgs false
set_option maxRecDepth 20000
/-- the modulation's slope -/
def tur (v : V) (b : Int) : V := { regV v 4 b with mreg := b, mn := 0, mgain := if 128 ≤ b then b % 64 else v.mgain }
theorem put_tur (base : Nat) (g : Nat) (v : V) (W : World) (h : Is base W g v) (hw : Wf v) (hm : MS W) (b : Int) (hb : U8 b) :
  Calls Tryd.prog 42 #[.pointer (some ⟨g, 0, none⟩), .int .u16 16516, .int .u8 b] W fun e W' => e = .returned (.tuple #[]) ∧ Is base W' g (tur v b) ∧ Turn base W W' (One g) := by
 have HO := Aside0.mk (out_calls base g v W h hw hm)
 have H := Aside0.mk h
 have HBB := Aside0.mk hb
 have c9 : W.cell? ⟨g, 137, none⟩ = some (.int .u8 (rd v.reg 9)) := h.reg_ 9 (by decide)
 have ck0 : W.cell? ⟨g, 132, none⟩ = some (.int .u8 (rd v.reg 4)) := h.reg_ 4 (by decide)
 have f0 := h.frozen 132
 clear h hw hm hb
 go_enter Tryd.func42, Tryd.ntmps42
 go_wp2_with (first
  | (go_at_call 68; refine HO.out.mono ?_; rintro e W1 ⟨rfl, n1, rfl⟩)
  | (go_at_call 76; refine (put_calls base g (regV v 4 b) _ b HBB.out ((H.out.drewN n1).set_reg 4 b (by decide)) 3 (.inr rfl)).mono ?_; rintro e W2 ⟨rfl, hi, ht⟩; rw [if_neg (by decide)] at hi; have HI2 := Aside0.mk hi; have HT2 := Aside0.mk ht; clear hi ht))
 go_end0
 exact ⟨rfl, HI2.out, (((Turn.refl base W (One g)).drewN n1).set_ rfl H.out.base _).trans HT2.out⟩
/-- the counter -/
def cou (v : V) (b : Int) : V := { regV v 5 b with counter := if 64 ≤ b % 128 then b % 128 - 128 else b % 128 }
theorem put_cou (base : Nat) (g : Nat) (v : V) (W : World) (h : Is base W g v) (hw : Wf v) (hm : MS W) (b : Int) (hb : U8 b) :
  Calls Tryd.prog 42 #[.pointer (some ⟨g, 0, none⟩), .int .u16 16517, .int .u8 b] W fun e W' => e = .returned (.tuple #[]) ∧ Is base W' g (cou v b) ∧ Turn base W W' (One g) := by
 have HO := Aside0.mk (out_calls base g v W h hw hm)
 have H := Aside0.mk h
 have a127 := and127 b hb.1 hb.2
 have c9 : W.cell? ⟨g, 137, none⟩ = some (.int .u8 (rd v.reg 9)) := h.reg_ 9 (by decide)
 have ck0 : W.cell? ⟨g, 133, none⟩ = some (.int .u8 (rd v.reg 5)) := h.reg_ 5 (by decide)
 have cc : W.cell? ⟨g, 145, none⟩ = some (.int .i64 v.counter) := h.tail_ 6
 have f0 := h.frozen 133
 have fc := h.frozen 145
 unfold cou
 by_cases h64 : 64 ≤ b % 128
 all_goals
  first | rw [if_pos h64] | rw [if_neg h64]
  have h127 : 0 ≤ b % 128 ∧ b % 128 < 128 := by omega
  obtain ⟨h1270, h1271⟩ := h127
  first | have hd : decide (64 ≤ b % 128) = true := decide_eq_true h64 | have hd : decide (64 ≤ b % 128) = false := decide_eq_false h64
  generalize hbb : b % 128 = m at *
 ·clear h hw hm hb hbb h64
  go_enter Tryd.func42, Tryd.ntmps42
  go_wp2_with (go_at_call 68; refine HO.out.mono ?_; rintro e W1 ⟨rfl, n1, rfl⟩)
  go_end0
  exact ⟨rfl, (((H.out.drewN n1).set_reg 5 b (by decide)).set_tail 6 (.int .i64 m) (v' := { regV v 5 b with counter := m }) rfl rfl rfl rfl).set_tail 6 _ rfl rfl rfl rfl, ((((Turn.refl base W (One g)).drewN n1).set_ rfl H.out.base _).set_ rfl H.out.base _).set_ rfl H.out.base _⟩
 ·clear h hw hm hb hbb h64
  go_enter Tryd.func42, Tryd.ntmps42
  go_wp2_with (go_at_call 68; refine HO.out.mono ?_; rintro e W1 ⟨rfl, n1, rfl⟩)
  go_end0
  exact ⟨rfl, ((H.out.drewN n1).set_reg 5 b (by decide)).set_tail 6 _ rfl rfl rfl rfl, (((Turn.refl base W (One g)).drewN n1).set_ rfl H.out.base _).set_ rfl H.out.base _⟩
/-- the pitch's high part; the table begins anew -/
def hig (v : V) (b : Int) : V := if 128 ≤ b then { regV v 3 b with wrest := 0, wat := 0 } else regV v 3 b
theorem put_hig (base : Nat) (g : Nat) (v : V) (W : World) (h : Is base W g v) (hw : Wf v) (hm : MS W) (b : Int) (hb : U8 b) :
  Calls Tryd.prog 42 #[.pointer (some ⟨g, 0, none⟩), .int .u16 16515, .int .u8 b] W fun e W' => e = .returned (.tuple #[]) ∧ Is base W' g (hig v b) ∧ Turn base W W' (One g) := by
 have HO := Aside0.mk (out_calls base g v W h hw hm)
 have H := Aside0.mk h
 have a128 := and128 b hb.1 hb.2
 have c9 : W.cell? ⟨g, 137, none⟩ = some (.int .u8 (rd v.reg 9)) := h.reg_ 9 (by decide)
 have ck0 : W.cell? ⟨g, 131, none⟩ = some (.int .u8 (rd v.reg 3)) := h.reg_ 3 (by decide)
 have cc : W.cell? ⟨g, 146, none⟩ = some (.int .i64 v.wrest) := h.tail_ 7
 have cd : W.cell? ⟨g, 147, none⟩ = some (.int .i64 v.wat) := h.tail_ 8
 have f0 := h.frozen 131
 have fc := h.frozen 146
 have fd := h.frozen 147
 unfold hig
 by_cases h1 : 128 ≤ b
 ·rw [if_pos h1] at a128 ⊢
  clear h hw hm hb h1
  go_enter Tryd.func42, Tryd.ntmps42
  go_wp2_with (go_at_call 68; refine HO.out.mono ?_; rintro e W1 ⟨rfl, n1, rfl⟩)
  go_end0
  exact ⟨rfl, (((H.out.drewN n1).set_reg 3 b (by decide)).set_tail 7 (.int .i64 0) (v' := { regV v 3 b with wrest := 0 }) rfl rfl rfl rfl).set_tail 8 (.int .i64 0) rfl rfl rfl rfl, ((((Turn.refl base W (One g)).drewN n1).set_ rfl H.out.base _).set_ rfl H.out.base _).set_ rfl H.out.base _⟩
 ·rw [if_neg h1] at a128 ⊢
  clear h hw hm hb h1
  go_enter Tryd.func42, Tryd.ntmps42
  go_wp2_with (go_at_call 68; refine HO.out.mono ?_; rintro e W1 ⟨rfl, n1, rfl⟩)
  go_end0
  exact ⟨rfl, (H.out.drewN n1).set_reg 3 b (by decide), ((Turn.refl base W (One g)).drewN n1).set_ rfl H.out.base _⟩
/-- the turns' high part -/
def thi (v : V) (b : Int) : V := if 128 ≤ b then { regV v 7 b with brest := 0 } else regV v 7 b
theorem put_thi (base : Nat) (g : Nat) (v : V) (W : World) (h : Is base W g v) (hw : Wf v) (hm : MS W) (b : Int) (hb : U8 b) :
  Calls Tryd.prog 42 #[.pointer (some ⟨g, 0, none⟩), .int .u16 16519, .int .u8 b] W fun e W' => e = .returned (.tuple #[]) ∧ Is base W' g (thi v b) ∧ Turn base W W' (One g) := by
 have HO := Aside0.mk (out_calls base g v W h hw hm)
 have H := Aside0.mk h
 have a128 := and128 b hb.1 hb.2
 have c9 : W.cell? ⟨g, 137, none⟩ = some (.int .u8 (rd v.reg 9)) := h.reg_ 9 (by decide)
 have ck0 : W.cell? ⟨g, 135, none⟩ = some (.int .u8 (rd v.reg 7)) := h.reg_ 7 (by decide)
 have cc : W.cell? ⟨g, 148, none⟩ = some (.int .i64 v.brest) := h.tail_ 9
 have f0 := h.frozen 135
 have fc := h.frozen 148
 unfold thi
 by_cases h1 : 128 ≤ b
 ·rw [if_pos h1] at a128 ⊢
  clear h hw hm hb h1
  go_enter Tryd.func42, Tryd.ntmps42
  go_wp2_with (go_at_call 68; refine HO.out.mono ?_; rintro e W1 ⟨rfl, n1, rfl⟩)
  go_end0
  exact ⟨rfl, ((H.out.drewN n1).set_reg 7 b (by decide)).set_tail 9 (.int .i64 0) rfl rfl rfl rfl, (((Turn.refl base W (One g)).drewN n1).set_ rfl H.out.base _).set_ rfl H.out.base _⟩
 ·rw [if_neg h1] at a128 ⊢
  clear h hw hm hb h1
  go_enter Tryd.func42, Tryd.ntmps42
  go_wp2_with (go_at_call 68; refine HO.out.mono ?_; rintro e W1 ⟨rfl, n1, rfl⟩)
  go_end0
  exact ⟨rfl, (H.out.drewN n1).set_reg 7 b (by decide), ((Turn.refl base W (One g)).drewN n1).set_ rfl H.out.base _⟩
/-! ### two turns -/
def lay1 (v : V) (b : Int) : V := { v with turns := v.turns.set v.bat.toNat (b % 8), bat := (v.bat + 1) % 64 }
def layV (v : V) (b : Int) : V := if 128 ≤ rd v.reg 7 then lay1 (lay1 v b) b else v
def layN (v : V) (b : Int) : Nat → V
 | 0 => v
 | n + 1 => lay1 (layN v b n) b
theorem layN_reg (v : V) (b : Int) (n : Nat) : (layN v b n).reg = v.reg := by
 induction n with
 | zero => rfl
 | succ n ih => exact ih
theorem layN_bat (v : V) (b : Int) (n : Nat) (h : 0 ≤ v.bat ∧ v.bat < 64) : 0 ≤ (layN v b n).bat ∧ (layN v b n).bat < 64 := by
 cases n with
 | zero => exact h
 | succ n =>
  show 0 ≤ ((layN v b n).bat + 1) % 64 ∧ ((layN v b n).bat + 1) % 64 < 64
  omega
set_option maxHeartbeats 1000000 in
theorem lay_calls (base : Nat) (g : Nat) (v : V) (W : World) (h : Is base W g v) (hr7 : U8 (rd v.reg 7)) (hbat : 0 ≤ v.bat ∧ v.bat < 64) (b : Int) (hb : U8 b) :
  Calls Tryd.prog 77 #[.pointer (some ⟨g, 0, none⟩), .int .u8 b] W fun e W' => e = .returned (.tuple #[]) ∧ Is base W' g (layV v b) ∧ Turn base W W' (One g) := by
 have H := Aside0.mk h
 have a128 := and128 _ hr7.1 hr7.2
 have c7 : W.cell? ⟨g, 135, none⟩ = some (.int .u8 (rd v.reg 7)) := h.reg_ 7 (by decide)
 have a7 := and7 b hb.1 hb.2
 have HBAT := Aside0.mk hbat
 unfold layV
 by_cases h1 : 128 ≤ rd v.reg 7
 ·rw [if_pos h1] at a128 ⊢
  clear h hr7 hbat hb h1
  go_enter Tryd.func77, Tryd.ntmps77
  go_wp2
  go_loopg [11] 2 (fun kq v11 w' => ∃ n : Nat, v11 = .int .i64 (n : Int) ∧ Aside0 (Is base w' g (layN v b n) ∧ n + kq = 2) ∧ Aside0 (Turn base W w' (One g)))
  case atStart => exact ⟨0, rfl, ⟨H.out, rfl⟩, ⟨Turn.refl base W (One g)⟩⟩
  case round =>
   obtain ⟨n, rfl, HR, HT⟩ := hrel
   obtain ⟨hi, hk⟩ := HR.out
   have hbt := layN_bat v b n HBAT.out
   by_cases hn : n < 2
   ·have d1 : decide ((n : Int) < 2) = true := decide_eq_true (by omega)
    have n1 : (n : Int) + 1 ≤ 2 := by omega
    have hi' := Aside0.mk (hi.set_turns (layN v b n).bat.toNat (b % 8) (by omega))
    have cb : wr.cell? ⟨g, 149, none⟩ = some (.int .i64 (layN v b n).bat) := hi.tail_ 10
    have ct := hi.turns_ (layN v b n).bat hbt.1 hbt.2
    have ft := hi.frozen (64 + (layN v b n).bat.toNat)
    have eb : (wr.setCell ⟨g, 64 + (layN v b n).bat.toNat, none⟩ (.int .u8 (b % 8))).cell? ⟨g, 149, none⟩ = some (.int .i64 (layN v b n).bat) := hi'.out.tail_ 10
    have fb := hi'.out.frozen 149
    have HI2 := Aside0.mk (hi'.out.drew.set_tail 10 (.int .i64 (((layN v b n).bat + 1) % 64)) (v' := layN v b (n + 1)) rfl rfl rfl rfl)
    have HB := hi.base
    have HT2 := Aside0.mk (((HT.out.set_ (i := 64 + (layN v b n).bat.toNat) rfl HB (.int .u8 (b % 8))).drew).set_ (i := 149) rfl HB (.int .i64 (((layN v b n).bat + 1) % 64)))
    have HK := Aside0.mk (And.intro hk hn)
    have m1 : ((layN v b n).bat + 1).tmod 64 = ((layN v b n).bat + 1) % 64 := Int.tmod_eq_emod_of_nonneg (by omega)
    have q0 := eq_true hbt.1
    have q1 := eq_true hbt.2
    obtain ⟨hb0, hb1⟩ := hbt
    clear HR hi hk hn hi'
    generalize (layN v b n).bat = t at *
    go_wp2
    refine start_ (n := 12) (S := fun w' => w'.cell? ⟨g, 149, none⟩ = some (.int .i64 t)) (ds := [11]) #[false, false, false, false, false, false, false, false, false, false, false, false] (by kernel_rfl) rfl rfl (cb) (fun hHeld => ?_)
    refine pure_ (i := 0) (N := some 13) (v := ?_) (a' := ?_) #[true, false, false, false, false, false, false, false, false, false, false, false] rfl rfl (by kernel_rfl) (fun _ _ _ h => h) (Or.inl ⟨by rfl, ?_⟩) ?_ ?_
    rotate_left
    ·intro w'
     go_simp
     with_reducible rfl
    rotate_left
    ·simp only [Act.put, List.setIfInBounds_toArray, List.set_cons_zero, List.set_cons_succ, i64_w, i32_w]
     rfl
    refine pure_ (i := 1) (N := some 14) (v := ?_) (a' := ?_) #[true, true, false, false, false, false, false, false, false, false, false, false] rfl rfl (by kernel_rfl) (fun _ _ _ h => h) (Or.inl ⟨by rfl, ?_⟩) ?_ ?_
    rotate_left
    ·intro w'
     go_simp
     with_reducible rfl
    rotate_left
    ·simp only [Act.put, List.setIfInBounds_toArray, List.set_cons_zero, List.set_cons_succ, i64_w, i32_w]
     rfl
    refine pure_ (i := 2) (N := some 15) (v := ?_) (a' := ?_) #[true, true, true, false, false, false, false, false, false, false, false, false] rfl rfl (by kernel_rfl) (fun _ _ _ h => h) (Or.inl ⟨by rfl, ?_⟩) ?_ ?_
    rotate_left
    ·intro w'
     go_simp
     with_reducible rfl
    rotate_left
    ·simp only [Act.put, List.setIfInBounds_toArray, List.set_cons_zero, List.set_cons_succ, i64_w, i32_w]
     rfl
    refine pure_ (i := 3) (N := some 16) (v := ?_) (a' := ?_) #[true, true, true, true, false, false, false, false, false, false, false, false] rfl rfl (by kernel_rfl) (fun _ _ _ h => h) (Or.inl ⟨by rfl, ?_⟩) ?_ ?_
    rotate_left
    ·intro w'
     go_simp
     with_reducible rfl
    rotate_left
    ·simp only [Act.put, List.setIfInBounds_toArray, List.set_cons_zero, List.set_cons_succ, i64_w, i32_w]
     rfl
    refine pure_ (i := 4) (N := some 17) (v := ?_) (a' := ?_) #[true, true, true, true, true, false, false, false, false, false, false, false] rfl rfl (by kernel_rfl) (fun _ _ _ h => h) (Or.inl ⟨by rfl, ?_⟩) ?_ ?_
    rotate_left
    ·intro w'
     go_simp
     with_reducible rfl
    rotate_left
    ·simp only [Act.put, List.setIfInBounds_toArray, List.set_cons_zero, List.set_cons_succ, i64_w, i32_w]
     rfl
    refine pure_ (i := 6) (N := some 19) (v := ?_) (a' := ?_) #[true, true, true, true, true, false, true, false, false, false, false, false] rfl rfl (by kernel_rfl) (fun _ _ _ h => h) (Or.inl ⟨by rfl, ?_⟩) ?_ ?_
    rotate_left
    ·intro w'
     go_simp
     with_reducible rfl
    rotate_left
    ·simp only [Act.put, List.setIfInBounds_toArray, List.set_cons_zero, List.set_cons_succ, i64_w, i32_w]
     rfl
    refine pure_ (i := 7) (N := some 20) (v := ?_) (a' := ?_) #[true, true, true, true, true, false, true, true, false, false, false, false] rfl rfl (by kernel_rfl) (fun _ _ _ h => h) (Or.inl ⟨by rfl, ?_⟩) ?_ ?_
    rotate_left
    ·intro w'
     go_simp
     with_reducible rfl
    rotate_left
    ·simp only [Act.put, List.setIfInBounds_toArray, List.set_cons_zero, List.set_cons_succ, i64_w, i32_w]
     rfl
    refine pure_ (i := 8) (N := some 21) (v := ?_) (a' := ?_) #[true, true, true, true, true, false, true, true, true, false, false, false] rfl rfl (by kernel_rfl) (fun _ _ _ h => h) (Or.inl ⟨by rfl, ?_⟩) ?_ ?_
    rotate_left
    ·intro w'
     go_simp
     with_reducible rfl
    rotate_left
    ·simp only [Act.put, List.setIfInBounds_toArray, List.set_cons_zero, List.set_cons_succ, i64_w, i32_w]
     rfl
    refine pure_ (i := 9) (N := some 22) (v := ?_) (a' := ?_) #[true, true, true, true, true, false, true, true, true, true, false, false] rfl rfl (by kernel_rfl) (fun _ _ _ h => h) (Or.inl ⟨by rfl, ?_⟩) ?_ ?_
    rotate_left
    ·intro w'
     go_simp
     with_reducible rfl
    rotate_left
    ·simp only [Act.put, List.setIfInBounds_toArray, List.set_cons_zero, List.set_cons_succ, i64_w, i32_w]
     rfl
    refine take_ (i := 5) (N := some 18) (v := ?_) (a' := ?_) #[true, true, true, true, true, true, true, true, true, true, false, false] rfl rfl (by kernel_rfl) (fun _ _ _ h => h) (Or.inl ⟨by rfl, ?_⟩) hHeld ?_ ?_
    rotate_left
    ·intro w' s0
     go_simp
     with_reducible rfl
    rotate_left
    ·simp only [Act.put, List.setIfInBounds_toArray, List.set_cons_zero, List.set_cons_succ, i64_w, i32_w]
     rfl
    refine pure_ (i := 10) (N := some 23) (v := ?_) (a' := ?_) #[true, true, true, true, true, true, true, true, true, true, true, false] rfl rfl (by kernel_rfl) (fun _ _ _ h => h) (Or.inl ⟨by rfl, ?_⟩) ?_ ?_
    rotate_left
    ·intro w'
     go_simp
     with_reducible rfl
    rotate_left
    ·simp only [Act.put, List.setIfInBounds_toArray, List.set_cons_zero, List.set_cons_succ, i64_w, i32_w]
     rfl
    refine last_ (i := 11) (N := none) #[true, true, true, true, true, true, true, true, true, true, true, true] rfl rfl (by kernel_rfl) (by decide) (fun K hK => ?_)
    refine skip_ (w1 := ?_) (by rfl) rfl ?_ ?_
    rotate_left
    ·go_simp
     rfl
    refine hK.out _ _ ?_
    clear hK K
    refine done_ (by kernel_rfl) ?_
    go_wp2
    go_roundg (gk - 1)
    case measure => have := HK.out; omega
    case rel =>
     have := HK.out
     exact ⟨n + 1, by first | rfl | (congr 1), ⟨HI2.out, by omega⟩, HT2⟩
   ·have hn2 : n = 2 := by omega
    subst hn2
    have HI2 := Aside0.mk hi
    clear HR hi hk hn hbt
    go_wp2
    first | go_end0 | ((try simp only [Exit.inBlock, Exit.then]); refine bodyPost_ret (results_none rfl _ _ _) rfl ?_)
    exact ⟨rfl, HI2.out, HT.out⟩
 ·rw [if_neg h1] at a128 ⊢
  clear h hr7 hbat hb h1
  go_enter Tryd.func77, Tryd.ntmps77
  go_wp2
  first | go_end0 | ((try simp only [Exit.inBlock, Exit.then]); refine bodyPost_ret (results_none rfl _ _ _) rfl ?_)
  exact ⟨rfl, H.out, Turn.refl base W (One g)⟩
end Go.Proofs.YtaiaapjlpbhlbaaDoor.Wave
