-- made by a program of this repo (wip/patch_print.py); not trusted: Lean checks it
import Derived.Test.YtaiaapjlpbhlbaaDoorZPAdapterReadsx0
-- squeezed
namespace Go.Proofs.YtaiaapjlpbhlbaaDoor.PAdapterReads
open Go.RowKit Go.Proofs.YtaiaapjlpbhlbaaDoorW.PrintWords Go.Proofs.YtaiaapjlpbhlbaaDoorW.PrintLast Go.Proofs.YtaiaapjlpbhlbaaDoorW.PrintMore
attribute [local go_sem] max2_int min2_int max_two min_two max_three min_three max_four min_four   -- for this text's walks alone
set_option linter.unusedVariables false
set_option linter.unusedSimpArgs false

/-! ### seal_Step: function 83 -/
def seal_Step.l0 : Nat → Int → Int → Int → Option (Int)
 | 0, _, _, _ => none
 | k + 1, x0, x1, x7 => if x7 < 8 then (if 0 ≤ x7 then (seal_Step.l0 k (Go.bits .xor .u16 (Go.bits .or .u16 (x0 / 2) (IntKind.u16.wrap ((IntKind.u16.wrap (Go.bits .and .u8 (shr .u8 x1 x7) 1)) * 32768))) (IntKind.u16.wrap (33800 * (Go.bits .and .u16 x0 1)))) x1 (wrap64 (x7 + 1))) else (none)) else (some x0)
def seal_Step.f (k : Nat) (a0 : Int) (a1 : Int) : Option (Int) := seal_Step.l0 k a0 a1 0
set_option maxHeartbeats 8000000 in
set_option maxRecDepth 100000 in
theorem seal_Step.calls (k : Nat) (a0 : Int) (a1 : Int) (r : Int) (w : World) (h : seal_Step.f k a0 a1 = some r) :
  Calls Tryd.prog 83 #[.int .u16 a0, .int .u8 a1] w fun e w' => e = .returned (.int .u16 r) ∧ Drawn0 w w' := by
 have H : (seal_Step.l0 k a0 a1 0) = some r := h
 clear h
 have H' := Aside0.mk H
 clear H
 go_enter Tryd.func83, Tryd.ntmps83
 go_wp2
 go_loopg [0, 7] k (fun kq v0 v7 w' => ∃ (x0_1 : Int) (x7_1 : Int), v0 = .int .u16 x0_1 ∧ v7 = .int .i64 x7_1 ∧ Aside0 (seal_Step.l0 kq x0_1 a1 x7_1 = some r) ∧ Aside0 (kq ≤ k) ∧ Drawn0 w w')
 case atStart => exact ⟨(a0), (0), (by first | rfl | (simp; done) | (simp [*]; done)), (by first | rfl | (simp; done) | (simp [*]; done)), H', ⟨Nat.le_refl _⟩, by repeat (first | exact Drawn0.refl _ | apply Drawn0.step)⟩
 case round =>
  clear H'
  try clear p2
  obtain ⟨x0_1, x7_1, rfl, rfl, HA, HK1, ⟨m1, rfl⟩⟩ := hrel
  cases gk with
  | zero => exact absurd HA.out (by simp [seal_Step.l0])
  | succ k1 =>
   have H := HA.out
   clear HA
   simp only [seal_Step.l0] at H
   by_cases c3 : x7_1 < 8
   ·rw [if_pos c3] at H
    have c3b0 : decide (x7_1 < 8) = true := decide_eq_true c3
    clear c3
    by_cases c4 : 0 ≤ x7_1
    ·rw [if_pos c4] at H
     have c4b0 := eq_true c4
     have c4b1 : decide (0 ≤ x7_1) = true := decide_eq_true c4
     clear c4
     obtain ⟨ji5, hji5⟩ : ∃ j_ : Int, (shr .u8 a1 x7_1) = j_ := ⟨_, rfl⟩
     replace H : (seal_Step.l0 k1 (Go.bits .xor .u16 (Go.bits .or .u16 (x0_1 / 2) (IntKind.u16.wrap ((IntKind.u16.wrap (Go.bits .and .u8 (ji5) 1)) * 32768))) (IntKind.u16.wrap (33800 * (Go.bits .and .u16 x0_1 1)))) a1 (wrap64 (x7_1 + 1))) = some r := by first | (rw [hji5] at H; exact H) | (simp only [hji5] at H ⊢; exact H)
     have hji5_ : (a1 / 2 ^ min x7_1.toNat 8) = ji5 := hji5
     have hji5z : x7_1 ≤ 8 → (a1 / 2 ^ x7_1.toNat) = ji5 := shr_small hji5
     have H' := Aside0.mk H
     clear H
     go_wp2
     go_roundg k1
     case measure => have := HK1.out; omega
     case rel => exact ⟨(Go.bits .xor .u16 (Go.bits .or .u16 (x0_1 / 2) (IntKind.u16.wrap ((IntKind.u16.wrap (Go.bits .and .u8 (ji5) 1)) * 32768))) (IntKind.u16.wrap (33800 * (Go.bits .and .u16 x0_1 1)))), (wrap64 (x7_1 + 1)), (by first | rfl | (simp; done) | (simp only [← hji5] <;> (first | rfl | simp)) | (simp [*]; done)), (by first | rfl | (simp; done) | (simp [*]; done)), H', ⟨by have := HK1.out; omega⟩, by repeat (first | exact Drawn0.refl _ | apply Drawn0.step)⟩
    ·rw [if_neg c4] at H
     exact absurd H (by simp)
   ·rw [if_neg c3] at H
    have c3b0 : decide (x7_1 < 8) = false := decide_eq_false c3
    clear c3
    obtain rfl := Option.some.inj H
    go_wp2
    go_ret
    exact ⟨by first | rfl | (simp; done) | (simp [*]; done), by repeat (first | exact Drawn0.refl _ | apply Drawn0.step)⟩

-- NOT PRINTED: function 47 (adapter_Adapter_read)

-- NOT PRINTED: function 48 (drive_Drive_Get)

-- NOT PRINTED: function 49 (drive_Drive_Lay)

-- NOT PRINTED: function 50 (adapter_Adapter_next)

-- NOT PRINTED: function 12 (adapter_Adapter_Clock)

-- NOT PRINTED: function 13 (adapter_Adapter_IRQ)

-- NOT PRINTED: function 9 (kotatsulaw18_awake)

end Go.Proofs.YtaiaapjlpbhlbaaDoor.PAdapterReads
