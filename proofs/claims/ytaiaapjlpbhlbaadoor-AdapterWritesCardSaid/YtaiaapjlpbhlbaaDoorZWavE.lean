/-
 PUT, WHOLE: any place, any byte. By the prover of this repo.
-/
import Derived.Test.YtaiaapjlpbhlbaaDoorZWavD
namespace Go.Proofs.YtaiaapjlpbhlbaaDoor.Wave
open Go.RowKit Go.Proofs.YtaiaapjlpbhlbaaDoorW.PrintWords Go.Proofs.YtaiaapjlpbhlbaaDoorW.PrintLast Go.Proofs.YtaiaapjlpbhlbaaDoorW.PrintMore
set_option linter.unusedVariables false
set_option linter.unusedSimpArgs false
set_option maxRecDepth 20000
theorem put_trn (base : Nat) (g : Nat) (v : V) (W : World) (h : Is base W g v) (hw : Wf v) (hm : MS W) (b : Int) (hb : U8 b) :
  Calls Tryd.prog 42 #[.pointer (some ⟨g, 0, none⟩), .int .u16 16520, .int .u8 b] W fun e W' => e = .returned (.tuple #[]) ∧ Is base W' g (layV (regV v 8 b) b) ∧ Turn base W W' (One g) := by
 have HO := Aside0.mk (out_calls base g v W h hw hm)
 have H := Aside0.mk h
 have HBB := Aside0.mk hb
 have HR := Aside0.mk (And.intro ((hw.reg_ 8 b hb).reg 7) hw.bat)
 have c9 : W.cell? ⟨g, 137, none⟩ = some (.int .u8 (rd v.reg 9)) := h.reg_ 9 (by decide)
 have ck0 : W.cell? ⟨g, 136, none⟩ = some (.int .u8 (rd v.reg 8)) := h.reg_ 8 (by decide)
 have f0 := h.frozen 136
 clear h hw hm hb
 go_enter Tryd.func42, Tryd.ntmps42
 go_wp2_with (first
  | (go_at_call 68; refine HO.out.mono ?_; rintro e W1 ⟨rfl, n1, rfl⟩)
  | (go_at_call 77; refine (lay_calls base g (regV v 8 b) _ ((H.out.drewN n1).set_reg 8 b (by decide)) HR.out.1 HR.out.2 b HBB.out).mono ?_; rintro e W2 ⟨rfl, hi, ht⟩; have HI2 := Aside0.mk hi; have HT2 := Aside0.mk ht; clear hi ht))
 go_end0
 exact ⟨rfl, HI2.out, (((Turn.refl base W (One g)).drewN n1).set_ rfl H.out.base _).trans HT2.out⟩
theorem put_out (base : Nat) (g : Nat) (v : V) (W : World) (h : Is base W g v) (a : Int) (a0 : 0 ≤ a) (a1 : a < 65536) (ha : a < 16448 ∨ 16523 ≤ a) (b : Int) :
  Calls Tryd.prog 42 #[.pointer (some ⟨g, 0, none⟩), .int .u16 a, .int .u8 b] W fun e W' => e = .returned (.tuple #[]) ∧ Is base W' g v ∧ Turn base W W' (One g) := by
 have H := Aside0.mk h
 by_cases h1 : a < 16448
 ·have t1 : decide (a < 16448) = true := decide_eq_true h1
  clear h ha h1
  go_enter Tryd.func42, Tryd.ntmps42
  go_wp2
  first | go_end0 | ((try simp only [Exit.inBlock, Exit.then]); refine bodyPost_ret (results_none rfl _ _ _) rfl ?_)
  exact ⟨rfl, H.out, Turn.refl base W (One g)⟩
 ·have t1 : decide (a < 16448) = false := decide_eq_false h1
  have t2 : decide (16523 ≤ a) = true := decide_eq_true (by omega)
  clear h ha h1
  go_enter Tryd.func42, Tryd.ntmps42
  go_wp2
  first | go_end0 | ((try simp only [Exit.inBlock, Exit.then]); refine bodyPost_ret (results_none rfl _ _ _) rfl ?_)
  exact ⟨rfl, H.out, Turn.refl base W (One g)⟩
def putV (v : V) (a b : Int) : V :=
 if a < 16448 ∨ 16523 ≤ a then v
 else if a < 16512 then tab v (a - 16448) b
 else if a = 16512 then vol v b
 else if a = 16515 then hig v b
 else if a = 16516 then tur v b
 else if a = 16517 then cou v b
 else if a = 16519 then thi v b
 else if a = 16520 then layV (regV v 8 b) b
 else if a = 16521 then mas v b
 else regV v (a - 16512).toNat b
theorem put_all (base : Nat) (g : Nat) (v : V) (W : World) (h : Is base W g v) (hw : Wf v) (hm : MS W) (a : Int) (a0 : 0 ≤ a) (a1 : a < 65536) (b : Int) (hb : U8 b) :
  Calls Tryd.prog 42 #[.pointer (some ⟨g, 0, none⟩), .int .u16 a, .int .u8 b] W fun e W' => e = .returned (.tuple #[]) ∧ Is base W' g (putV v a b) ∧ Turn base W W' (One g) := by
 unfold putV
 by_cases h0 : a < 16448 ∨ 16523 ≤ a
 ·rw [if_pos h0]; exact put_out base g v W h a a0 a1 h0 b
 rw [if_neg h0]
 by_cases h1 : a < 16512
 ·rw [if_pos h1]; exact put_tab base g v W h hw a (by omega) h1 b hb
 rw [if_neg h1]
 by_cases h2 : a = 16512
 ·subst h2; rw [if_pos rfl]; exact put_vol base g v W h hw hm b hb
 rw [if_neg h2]
 by_cases h3 : a = 16515
 ·subst h3; rw [if_pos rfl]; exact put_hig base g v W h hw hm b hb
 rw [if_neg h3]
 by_cases h4 : a = 16516
 ·subst h4; rw [if_pos rfl]; exact put_tur base g v W h hw hm b hb
 rw [if_neg h4]
 by_cases h5 : a = 16517
 ·subst h5; rw [if_pos rfl]; exact put_cou base g v W h hw hm b hb
 rw [if_neg h5]
 by_cases h6 : a = 16519
 ·subst h6; rw [if_pos rfl]; exact put_thi base g v W h hw hm b hb
 rw [if_neg h6]
 by_cases h7 : a = 16520
 ·subst h7; rw [if_pos rfl]; exact put_trn base g v W h hw hm b hb
 rw [if_neg h7]
 by_cases h8 : a = 16521
 ·subst h8; rw [if_pos rfl]; exact put_mas base g v W h hw hm b hb
 rw [if_neg h8]
 have hk := put_plain base g v W h hw hm (a - 16512).toNat (by omega) b hb
 rw [show (16512 : Int) + (((a - 16512).toNat : Nat) : Int) = a by omega] at hk
 exact hk
theorem lay1_wf {v : V} (h : Wf v) (b : Int) : Wf (lay1 v b) :=
 ⟨h.table, fun j => rd_set_P (fun x => 0 ≤ x ∧ x < 8) v.turns v.bat.toNat (b % 8) (by omega) h.turns j, h.reg, h.vgain, h.mgain, h.vreg, h.mreg, h.wat, by show 0 ≤ (v.bat + 1) % 64 ∧ (v.bat + 1) % 64 < 64; omega, h.held⟩
theorem putV_wf {v : V} (h : Wf v) (a b : Int) (hb : U8 b) : Wf (putV v a b) := by
 unfold putV
 split
 ·exact h
 split
 ·exact h.tab _ b hb
 split
 ·exact h.vol b hb
 split
 ·unfold hig
  have hr := h.reg_ 3 b hb
  split
  ·exact ⟨hr.table, hr.turns, hr.reg, hr.vgain, hr.mgain, hr.vreg, hr.mreg, ⟨show (0 : Int) ≤ 0 by decide, show (0 : Int) < 64 by decide⟩, hr.bat, hr.held⟩
  ·exact hr
 split
 ·have hr := h.reg_ 4 b hb
  refine ⟨hr.table, hr.turns, hr.reg, hr.vgain, ?_, hr.vreg, hb, hr.wat, hr.bat, hr.held⟩
  show 0 ≤ (if 128 ≤ b then b % 64 else v.mgain) ∧ (if 128 ≤ b then b % 64 else v.mgain) < 64
  have := h.mgain
  split <;> omega
 split
 ·have hr := h.reg_ 5 b hb
  exact ⟨hr.table, hr.turns, hr.reg, hr.vgain, hr.mgain, hr.vreg, hr.mreg, hr.wat, hr.bat, hr.held⟩
 split
 ·unfold thi
  have hr := h.reg_ 7 b hb
  split
  ·exact ⟨hr.table, hr.turns, hr.reg, hr.vgain, hr.mgain, hr.vreg, hr.mreg, hr.wat, hr.bat, hr.held⟩
  ·exact hr
 split
 ·unfold layV
  have hr := h.reg_ 8 b hb
  split
  ·exact lay1_wf (lay1_wf hr b) b
  ·exact hr
 split
 ·exact h.mas b hb
 ·exact h.reg_ _ b hb
end Go.Proofs.YtaiaapjlpbhlbaaDoor.Wave
