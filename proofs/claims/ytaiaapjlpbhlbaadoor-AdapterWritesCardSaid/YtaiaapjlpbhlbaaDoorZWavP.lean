/-
 THE PITCH: both printed functions come to one number. By the prover of this repo.
-/
import Derived.Test.YtaiaapjlpbhlbaaDoorZPAdapterTimesx1
namespace Pit
/-- a product's part of the pitch, as the program comes to it -/
def part (t counter : Int) : Int :=
 if 0 < t % 16 ∧ t / 16 % 256 < 128 then (if counter < 0 then t / 16 - 1 else t / 16 + 2) else t / 16
def near (q : Int) : Int := (q + 64) % 256 - 64
def ok (p c g : Int) : Prop := ¬ (p < 0 ∨ 4095 < p ∨ c < -64 ∨ 64 ≤ c ∨ g < 0 ∨ 63 < g)
def pitch (p c g : Int) : Int := p + p * near (part (c * g) c) / 64 + p * near (part (c * g) c) / 32 % 2

theorem mul_le (c g : Int) (h1 : -64 ≤ c) (h2 : c ≤ 63) (h3 : 0 ≤ g) (h4 : g ≤ 63) : -4032 ≤ c * g ∧ c * g ≤ 3969 := by
 constructor
 ·have := Int.mul_le_mul_of_nonneg_right h1 h3
  have : -64 * g ≥ -4032 := by omega
  omega
 ·have := Int.mul_le_mul_of_nonneg_right h2 h3
  omega
theorem near_le (q : Int) : -64 ≤ near q ∧ near q ≤ 191 := by unfold near; omega
theorem mul_near (p q : Int) (h0 : 0 ≤ p) : -64 * p ≤ p * near q ∧ p * near q ≤ 191 * p := by
 have h := near_le q
 have a := Int.mul_le_mul_of_nonneg_left h.1 h0
 have b := Int.mul_le_mul_of_nonneg_left h.2 h0
 omega
theorem pitch_range (p c g : Int) (h0 : 0 ≤ p) : 0 ≤ pitch p c g ∧ pitch p c g ≤ 4 * p + 1 := by
 unfold pitch
 have := mul_near p (part (c * g) c) h0
 generalize p * near (part (c * g) c) = u at *
 omega
theorem pitch_zero (p c g : Int) (h : c * g = 0) : pitch p c g = p := by
 unfold pitch part
 rw [h]
 simp [near]
end Pit

namespace Go.Proofs.YtaiaapjlpbhlbaaDoor.Pitch
open Go.RowKit Go.Proofs.YtaiaapjlpbhlbaaDoor.PAdapterTimes Go.Proofs.YtaiaapjlpbhlbaaDoorW.PrintWords Go.Proofs.YtaiaapjlpbhlbaaDoorW.PrintLast Go.Proofs.YtaiaapjlpbhlbaaDoorW.PrintMore
set_option linter.unusedVariables false
set_option linter.unusedSimpArgs false
theorem w64 {n : Int} (h0 : -9223372036854775808 ≤ n) (h1 : n ≤ 9223372036854775807) : wrap64 n = n := by unfold wrap64; omega
theorem mask15 (a : Int) : Go.bits .and .i64 a 15 = a % 16 := by
 have h : (BitVec.ofInt 64 a &&& BitVec.ofInt 64 15).toNat = (a % 2 ^ 64).toNat % 2 ^ 4 := by
  rw [BitVec.toNat_and, show (BitVec.ofInt 64 15).toNat = 2 ^ 4 - 1 by decide, Nat.and_two_pow_sub_one_eq_mod, BitVec.toNat_ofInt]; rfl
 show IntKind.i64.wrap (((BitVec.ofInt 64 a &&& BitVec.ofInt 64 15).toNat : Nat) : Int) = _
 rw [h, IntKind.wrap_i64]
 omega
theorem mask1 (a : Int) : Go.bits .and .i64 a 1 = a % 2 := by
 have h : (BitVec.ofInt 64 a &&& BitVec.ofInt 64 1).toNat = (a % 2 ^ 64).toNat % 2 ^ 1 := by
  rw [BitVec.toNat_and, show (BitVec.ofInt 64 1).toNat = 2 ^ 1 - 1 by decide, Nat.and_two_pow_sub_one_eq_mod, BitVec.toNat_ofInt]; rfl
 show IntKind.i64.wrap (((BitVec.ofInt 64 a &&& BitVec.ofInt 64 1).toNat : Nat) : Int) = _
 rw [h, IntKind.wrap_i64]
 omega
theorem mask128_all : ((List.range 600).all fun m => decide (Go.bits .and .i64 ((m : Int) - 300) 128 = if ((m : Int) - 300) % 256 < 128 then 0 else 128)) = true := by kernel_rfl
theorem mask128 (q : Int) (h0 : -300 ≤ q) (h1 : q < 300) : Go.bits .and .i64 q 128 = if q % 256 < 128 then 0 else 128 := by
 have h := of_decide_eq_true (List.all_eq_true.1 mask128_all (q + 300).toNat (List.mem_range.2 (by omega)))
 rwa [show (((q + 300).toNat : Nat) : Int) - 300 = q by omega] at h
theorem rounded_eq (k : Nat) (t c : Int) (h0 : -4032 ≤ t) (h1 : t ≤ 3969) : wave_rounded.f (k + 6) t c = some (Pit.near (Pit.part t c)) := by
 unfold wave_rounded.f Pit.near Pit.part
 rw [mask15, mask128 (t / 16) (by omega) (by omega)]
 have hw : ∀ x : Int, -1000 ≤ x → x ≤ 1000 → wrap64 x = x := fun x a b => w64 (by omega) (by omega)
 have hl : ∀ (k : Nat) (x : Int), -253 ≤ x → x ≤ 250 → wave_rounded.l0 (k + 4) x = some ((x + 64) % 256 - 64) := by
  intro k x a b
  simp only [wave_rounded.l0]
  by_cases c1 : x ≥ 192
  ·rw [if_pos c1, hw _ (by omega) (by omega)]
   simp only [wave_rounded.l0, wave_rounded.l1]
   rw [if_neg (by omega), if_neg (by omega)]
   congr 1; omega
  ·rw [if_neg c1]
   simp only [wave_rounded.l1]
   by_cases c2 : x < -64
   ·rw [if_pos c2, hw _ (by omega) (by omega), if_neg (by omega)]
    congr 1; omega
   ·rw [if_neg c2]
    congr 1; omega
 by_cases c1 : t % 16 > 0
 ·rw [if_pos c1]
  by_cases c2 : t / 16 % 256 < 128
  ·rw [if_pos c2, if_pos ⟨c1, c2⟩]
   by_cases c3 : c < 0
   ·simp only [wave_rounded.j0, wave_rounded.j1, beq_self_eq_true, if_true, c3]
    rw [hw _ (by omega) (by omega), hl _ _ (by omega) (by omega)]
   ·simp only [wave_rounded.j0, wave_rounded.j1, beq_self_eq_true, if_true, c3, if_false]
    rw [hw _ (by omega) (by omega), hl _ _ (by omega) (by omega)]
  ·rw [if_neg c2, if_neg (fun h => c2 h.2)]
   simp only [wave_rounded.j0, wave_rounded.j1, show ((128 : Int) == 0) = false from rfl, Bool.false_eq_true, if_false]
   rw [hl _ _ (by omega) (by omega)]
 ·rw [if_neg c1, if_neg (fun h => c1 h.1)]
  simp only [wave_rounded.j0, wave_rounded.j1, Bool.false_eq_true, if_false]
  rw [hl _ _ (by omega) (by omega)]
def ans (p c g : Int) : Int := if p < 0 ∨ 4095 < p ∨ c < -64 ∨ 64 ≤ c ∨ g < 0 ∨ 63 < g then 0 else Pit.pitch p c g
theorem pitch_eq (k : Nat) (p c g : Int) : wave_Pitch.f (k + 6) p c g = some (ans p c g) := by
 unfold wave_Pitch.f ans
 by_cases c1 : p < 0
 ·rw [if_pos c1, if_pos (.inl c1)]
 rw [if_neg c1]
 by_cases c2 : p > 4095
 ·rw [if_pos c2, if_pos (.inr (.inl c2))]
 rw [if_neg c2]
 by_cases c3 : c < -64
 ·rw [if_pos c3, if_pos (.inr (.inr (.inl c3)))]
 rw [if_neg c3]
 by_cases c4 : c ≥ 64
 ·rw [if_pos c4, if_pos (.inr (.inr (.inr (.inl c4))))]
 rw [if_neg c4]
 by_cases c5 : g < 0
 ·rw [if_pos c5, if_pos (.inr (.inr (.inr (.inr (.inl c5)))))]
 rw [if_neg c5]
 by_cases c6 : g > 63
 ·rw [if_pos c6, if_pos (.inr (.inr (.inr (.inr (.inr c6)))))]
 rw [if_neg c6, if_neg (by omega)]
 have hm := Pit.mul_le c g (by omega) (by omega) (by omega) (by omega)
 rw [w64 (n := c * g) (by omega) (by omega), rounded_eq k _ _ hm.1 hm.2]
 simp only [Option.bind_some]
 have hn := Pit.mul_near p (Pit.part (c * g) c) (by omega)
 unfold Pit.pitch
 generalize p * Pit.near (Pit.part (c * g) c) = u at *
 rw [w64 (n := u) (by omega) (by omega), mask1, w64 (n := p + u / 64) (by omega) (by omega), w64 (by omega) (by omega)]
end Go.Proofs.YtaiaapjlpbhlbaaDoor.Pitch
