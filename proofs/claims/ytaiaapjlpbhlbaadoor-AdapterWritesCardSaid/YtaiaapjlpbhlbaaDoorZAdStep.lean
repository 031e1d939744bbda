/-
 seal.Step: the printed contract with its plain answer. By the prover of this repo.
-/
import Derived.Test.YtaiaapjlpbhlbaaDoorZPAdapterTimesx1
import Derived.Test.YtaiaapjlpbhlbaaDoorZU
namespace Go.Proofs.YtaiaapjlpbhlbaaDoor.Pure
open Go.RowKit Go.Proofs.YtaiaapjlpbhlbaaDoor.PAdapterTimes Go.Proofs.YtaiaapjlpbhlbaaDoor.U Go.Proofs.YtaiaapjlpbhlbaaDoorW.PrintWords Go.Proofs.YtaiaapjlpbhlbaaDoorW.PrintLast Go.Proofs.YtaiaapjlpbhlbaaDoorW.PrintMore
set_option linter.unusedVariables false
set_option linter.unusedSimpArgs false
/-! ### seal_Step -/
theorem shr_bit (b i : Nat) (hb : b < 256) (hi : i < 8) : Go.bits .and .u8 (shr .u8 (b : Int) (i : Int)) 1 = ((b / 2 ^ i % 2 : Nat) : Int) := by
 have e : shr .u8 (b : Int) (i : Int) = ((b / 2 ^ i : Nat) : Int) := by
  unfold shr
  rw [Int.toNat_natCast, show min i IntKind.u8.bits = i from by simp [IntKind.bits]; omega]
  exact_mod_cast rfl
 have hlt : b / 2 ^ i < 256 := Nat.lt_of_le_of_lt (Nat.div_le_self _ _) hb
 rw [e, and1_u8 _ hlt]
theorem step_one (s x : Nat) (hs : s < 65536) (hx : x < 2) : Go.bits .xor .u16 (Go.bits .or .u16 ((s : Int) / 2) (IntKind.u16.wrap ((IntKind.u16.wrap (x : Int)) * 32768))) (IntKind.u16.wrap (33800 * (Go.bits .and .u16 (s : Int) 1))) = ((Crc.G s x : Nat) : Int) := by
 rw [and1_u16 s hs, wu16 (n := (x : Int)) (by omega) (by omega), wu16 (n := (x : Int) * 32768) (by omega) (by omega)]
 have h2 : s % 2 = 0 ∨ s % 2 = 1 := by omega
 rw [wu16 (n := 33800 * _) (by omega) (by omega)]
 have eo : Go.bits .or .u16 ((s : Int) / 2) ((x : Int) * 32768) = ((s / 2 + 32768 * x : Nat) : Int) := by
  have := bits_join_low .u16 16 (by decide) wraps_u16 15 ((s : Int) / 2) ((x : Int) * 32768) (by omega) (by omega) (by omega) (by omega) (by omega) (by omega)
  rw [this]; omega
 rw [eo, show (33800 * ((s % 2 : Nat) : Int)) = ((33800 * (s % 2) : Nat) : Int) by omega, xor_u16 _ _ (by omega) (by omega)]
 rfl
theorem step_l0 (b : Nat) (hb : b < 256) (j : Nat) : ∀ s : Nat, s < 65536 → j ≤ 8 → Ev (fun k => seal_Step.l0 k (s : Int) (b : Int) ((8 - j : Nat) : Int)) ((Crc.gfeed s (Crc.bitsOf j (b / 2 ^ (8 - j))) : Nat) : Int) := by
 induction j with
 | zero =>
  intro s hs _
  refine Ev.step (f := fun _ => some (s : Int)) (fun k => ?_) (Ev.now _)
  simp only [seal_Step.l0]
  rw [if_neg (by omega)]
 | succ j ih =>
  intro s hs hj
  have hx : b / 2 ^ (8 - (j + 1)) % 2 < 2 := Nat.mod_lt _ (by decide)
  have h1 := ih (Crc.G s (b / 2 ^ (8 - (j + 1)) % 2)) (Crc.G_lt hs hx) (by omega)
  have e : b / 2 ^ (8 - (j + 1)) / 2 = b / 2 ^ (8 - j) := by
   rw [Nat.div_div_eq_div_mul, ← Nat.pow_succ, show (8 - (j + 1)).succ = 8 - j by omega]
  rw [Crc.bitsOf, e]
  refine Ev.step (f := fun k => seal_Step.l0 k ((Crc.G s (b / 2 ^ (8 - (j + 1)) % 2) : Nat) : Int) (b : Int) ((8 - j : Nat) : Int)) (fun k => ?_) h1
  simp only [seal_Step.l0]
  rw [if_pos (by omega), if_pos (by omega), shr_bit b _ hb (by omega), step_one s _ hs hx, w64 (by omega) (by omega)]
  congr 1
  omega
theorem step_ev (s b : Nat) (hs : s < 65536) (hb : b < 256) : Ev (fun k => seal_Step.f k (s : Int) (b : Int)) ((Crc.gfeed s (Crc.bitsOf 8 b) : Nat) : Int) := by
 have := step_l0 b hb 8 s hs (by omega)
 simpa [seal_Step.f] using this

end Go.Proofs.YtaiaapjlpbhlbaaDoor.Pure
namespace Go.Proofs.YtaiaapjlpbhlbaaDoor.Ada
open Go.RowKit Go.Proofs.YtaiaapjlpbhlbaaDoor.PAdapterTimes Go.Proofs.YtaiaapjlpbhlbaaDoor.U Go.Proofs.YtaiaapjlpbhlbaaDoorW.PrintWords Go.Proofs.YtaiaapjlpbhlbaaDoorW.PrintLast Go.Proofs.YtaiaapjlpbhlbaaDoorW.PrintMore
/-- a sum, one byte on -/
def stp (s b : Int) : Int := ((Crc.gfeed s.toNat (Crc.bitsOf 8 b.toNat) : Nat) : Int)
theorem stp_range (s b : Int) (hs : 0 ≤ s ∧ s < 65536) : 0 ≤ stp s b ∧ stp s b < 65536 := by
 unfold stp
 have h := Crc.gfeed_lt (Crc.bitsOf 8 b.toNat) s.toNat (by omega) (Crc.bitsOf_lt _ _)
 exact ⟨by omega, by omega⟩
theorem step_calls (s b : Int) (hs : 0 ≤ s ∧ s < 65536) (hb : 0 ≤ b ∧ b < 256) (W : World) :
  Calls Tryd.prog 83 #[.int .u16 s, .int .u8 b] W fun e W' => e = .returned (.int .u16 (stp s b)) ∧ Drawn0 W W' := by
 obtain ⟨m, rfl⟩ := Int.eq_ofNat_of_zero_le hs.1
 obtain ⟨n, rfl⟩ := Int.eq_ofNat_of_zero_le hb.1
 obtain ⟨k, hk⟩ := Pure.step_ev m n (by omega) (by omega)
 exact seal_Step.calls k (m : Int) (n : Int) _ W (hk k (Nat.le_refl _))
end Go.Proofs.YtaiaapjlpbhlbaaDoor.Ada
