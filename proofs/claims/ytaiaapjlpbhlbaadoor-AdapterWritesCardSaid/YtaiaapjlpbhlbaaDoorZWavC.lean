/-
 WHAT IS TOLD STAYS IN ITS BOUNDS; the chapter's example. By the prover of this repo.
-/
import Derived.Test.YtaiaapjlpbhlbaaDoorZWavB
namespace Go.Proofs.YtaiaapjlpbhlbaaDoor.Wave
open Go.RowKit Go.Proofs.YtaiaapjlpbhlbaaDoorW.PrintWords Go.Proofs.YtaiaapjlpbhlbaaDoorW.PrintLast Go.Proofs.YtaiaapjlpbhlbaaDoorW.PrintMore
set_option linter.unusedVariables false
set_option linter.unusedSimpArgs false
theorem rd_set_P (P : Int → Prop) (l : List Int) (i : Nat) (b : Int) (hb : P b) (h : ∀ j, P (rd l j)) (j : Int) : P (rd (l.set i b) j) := by
 have hj := h j
 unfold rd at hj ⊢
 rw [List.getD_eq_getElem?_getD] at hj ⊢
 by_cases e : i = j.toNat
 ·by_cases hl : j.toNat < l.length
  ·rw [e, List.getElem?_set_self hl]; exact hb
  ·rw [List.getElem?_eq_none (by rw [List.length_set]; omega)]
   rw [List.getElem?_eq_none (by omega)] at hj
   exact hj
 ·rw [List.getElem?_set_ne e]; exact hj
theorem rd_zs (n : Nat) (j : Int) : rd (zs n) j = 0 := by
 unfold rd zs
 rw [List.getD_eq_getElem?_getD, List.getElem?_replicate]
 split <;> rfl
theorem wf0 : Wf v0 := by
 refine ⟨fun i => ?_, fun i => ?_, fun i => ?_, ?_, ?_, ?_, ?_, ?_, ?_, ?_⟩
 ·show 0 ≤ rd (zs 64) i ∧ rd (zs 64) i < 64; rw [rd_zs]; decide
 ·show 0 ≤ rd (zs 64) i ∧ rd (zs 64) i < 8; rw [rd_zs]; decide
 ·show U8 (rd (zs 11) i); rw [rd_zs]; exact ⟨by decide, by decide⟩
 all_goals exact ⟨by decide, by decide⟩
theorem out_range {v : V} (h : Wf v) : 0 ≤ outV v ∧ outV v ≤ 60480 := by
 unfold outV
 split
 ·exact h.held
 ·have tb := h.table v.wat
  have g := h.vgain
  have r := h.reg 9
  have g2 : 0 ≤ min v.vgain 32 ∧ min v.vgain 32 ≤ 32 := by omega
  generalize min v.vgain 32 = k at *
  generalize rd v.table v.wat = y at *
  have p0 : 0 ≤ y * k := Int.mul_nonneg tb.1 g2.1
  have p1 : y * k ≤ 63 * 32 := Int.mul_le_mul (by omega) g2.2 g2.1 (by decide)
  generalize y * k = u at *
  have hr : rd ML (rd v.reg 9 % 4) = 30 ∨ rd ML (rd v.reg 9 % 4) = 20 ∨ rd ML (rd v.reg 9 % 4) = 15 ∨ rd ML (rd v.reg 9 % 4) = 12 := by
   rcases (show rd v.reg 9 % 4 = 0 ∨ rd v.reg 9 % 4 = 1 ∨ rd v.reg 9 % 4 = 2 ∨ rd v.reg 9 % 4 = 3 by omega) with h | h | h | h <;> rw [h]
   ·exact .inl rfl
   ·exact .inr (.inl rfl)
   ·exact .inr (.inr (.inl rfl))
   ·exact .inr (.inr (.inr rfl))
  rcases hr with h | h | h | h <;> rw [h] <;> omega
theorem Wf.reg_ {v : V} (h : Wf v) (i : Nat) (b : Int) (hb : U8 b) : Wf (regV v i b) :=
 ⟨h.table, h.turns, fun j => rd_set_P U8 v.reg i b hb h.reg j, h.vgain, h.mgain, h.vreg, h.mreg, h.wat, h.bat, h.held⟩
theorem Wf.mas {v : V} (h : Wf v) (b : Int) (hb : U8 b) : Wf (mas v b) := by
 unfold Wave.mas
 have hr := h.reg_ 9 b hb
 split
 ·exact ⟨hr.table, hr.turns, hr.reg, hr.vgain, hr.mgain, hr.vreg, hr.mreg, hr.wat, hr.bat, out_range h⟩
 ·exact hr
theorem Wf.vol {v : V} (h : Wf v) (b : Int) (hb : U8 b) : Wf (vol v b) := by
 have hr := h.reg_ 0 b hb
 refine ⟨hr.table, hr.turns, hr.reg, ?_, hr.mgain, hb, hr.mreg, hr.wat, hr.bat, hr.held⟩
 show 0 ≤ (if 128 ≤ b then b % 64 else v.vgain) ∧ (if 128 ≤ b then b % 64 else v.vgain) < 64
 have := h.vgain
 split <;> omega
theorem Wf.tab {v : V} (h : Wf v) (i b : Int) (hb : U8 b) : Wf (tab v i b) := by
 unfold Wave.tab
 split
 ·exact ⟨fun j => rd_set_P (fun x => 0 ≤ x ∧ x < 64) v.table i.toNat (b % 64) (by have := hb.1; omega) h.table j, h.turns, h.reg, h.vgain, h.mgain, h.vreg, h.mreg, h.wat, h.bat, h.held⟩
 ·exact h
theorem Turn.keep {base : Nat} {W0 W W' : World} {g : Nat} (hb : Below W0.heap.size W0 W) (ht : Turn base W W' (One g)) (hg : W0.heap.size ≤ base) : Below W0.heap.size W0 W' := hb.trans (ht.below.mono hg)
end Go.Proofs.YtaiaapjlpbhlbaaDoor.Wave
