/-
  THE ADAPTER's SMALL METHODS, each by its contract. By the prover of this repo.
-/
import Derived.Test.YtaiaapjlpbhlbaaDoorAd
import Derived.Test.YtaiaapjlpbhlbaaDoorWavClock
namespace Go.Proofs.YtaiaapjlpbhlbaaDoor.Ada
open Go.RowKit Go.Proofs.YtaiaapjlpbhlbaaDoorW.PrintWords Go.Proofs.YtaiaapjlpbhlbaaDoorW.PrintLast Go.Proofs.YtaiaapjlpbhlbaaDoorW.PrintMore
set_option linter.unusedVariables false
set_option linter.unusedSimpArgs false
set_option maxRecDepth 20000
def U8 (b : Int) : Prop := 0 ≤ b ∧ b < 256
def bit (b k : Int) : Bool := decide (b / k % 2 = 1)
theorem and_bit (b : Int) (hb : U8 b) (k : Int) (hk : k = 1 ∨ k = 2 ∨ k = 4 ∨ k = 8 ∨ k = 16 ∨ k = 64 ∨ k = 128) : Go.bits .and .u8 b k = if bit b k = true then k else 0 := by
  rcases hk with rfl | rfl | rfl | rfl | rfl | rfl | rfl
  · exact Wave.fin_u8 (fun x => Go.bits .and .u8 x 1 = if bit x 1 = true then 1 else 0) (by decide +kernel) b hb.1 hb.2
  · exact Wave.fin_u8 (fun x => Go.bits .and .u8 x 2 = if bit x 2 = true then 2 else 0) (by decide +kernel) b hb.1 hb.2
  · exact Wave.fin_u8 (fun x => Go.bits .and .u8 x 4 = if bit x 4 = true then 4 else 0) (by decide +kernel) b hb.1 hb.2
  · exact Wave.fin_u8 (fun x => Go.bits .and .u8 x 8 = if bit x 8 = true then 8 else 0) (by decide +kernel) b hb.1 hb.2
  · exact Wave.fin_u8 (fun x => Go.bits .and .u8 x 16 = if bit x 16 = true then 16 else 0) (by decide +kernel) b hb.1 hb.2
  · exact Wave.fin_u8 (fun x => Go.bits .and .u8 x 64 = if bit x 64 = true then 64 else 0) (by decide +kernel) b hb.1 hb.2
  · exact Wave.fin_u8 (fun x => Go.bits .and .u8 x 128 = if bit x 128 = true then 128 else 0) (by decide +kernel) b hb.1 hb.2
theorem or16 (a b : Int) (ha : U8 a) (hb : U8 b) : Go.bits .or .u16 (a * 256) b = a * 256 + b := by
  obtain ⟨a0, a1⟩ := ha
  obtain ⟨b0, b1⟩ := hb
  obtain ⟨m, rfl⟩ := Int.eq_ofNat_of_zero_le a0
  obtain ⟨n, rfl⟩ := Int.eq_ofNat_of_zero_le b0
  have h : (BitVec.ofInt 16 ((m : Int) * 256) ||| BitVec.ofInt 16 (n : Int)).toNat = m * 256 + n := by
    rw [BitVec.toNat_or, BitVec.toNat_ofInt, BitVec.toNat_ofInt]
    have e1 : (((m : Int) * 256) % ((2 ^ 16 : Nat) : Int)).toNat = 2 ^ 8 * m := by omega
    have e2 : ((n : Int) % ((2 ^ 16 : Nat) : Int)).toNat = n := by omega
    rw [e1, e2, ← Nat.two_pow_add_eq_or_of_lt (by omega)]
    omega
  show IntKind.u16.wrap (((BitVec.ofInt 16 ((m : Int) * 256) ||| BitVec.ofInt 16 (n : Int)).toNat : Nat) : Int) = _
  rw [h, IntKind.wrap_u16]
  omega
theorem or16r (a b : Int) (ha : U8 a) (hb : U8 b) : Go.bits .or .u16 b (a * 256) = b + a * 256 := by
  have h := or16 a b ha hb
  have e : Go.bits .or .u16 b (a * 256) = Go.bits .or .u16 (a * 256) b := by
    show IntKind.u16.wrap (((BitVec.ofInt 16 b ||| BitVec.ofInt 16 (a * 256)).toNat : Nat) : Int) = IntKind.u16.wrap (((BitVec.ofInt 16 (a * 256) ||| BitVec.ofInt 16 b).toNat : Nat) : Int)
    rw [BitVec.or_comm]
  rw [e, h]
  omega
theorem and255 (x : Int) (h0 : 0 ≤ x) (h1 : x < 65536) : Go.bits .and .u16 x 255 = x % 256 := by
  have h : (BitVec.ofInt 16 x &&& BitVec.ofInt 16 255).toNat = (x % 2 ^ 16).toNat % 2 ^ 8 := by
    rw [BitVec.toNat_and, show (BitVec.ofInt 16 255).toNat = 2 ^ 8 - 1 by decide, Nat.and_two_pow_sub_one_eq_mod, BitVec.toNat_ofInt]; rfl
  show IntKind.u16.wrap (((BitVec.ofInt 16 x &&& BitVec.ofInt 16 255).toNat : Nat) : Int) = _
  rw [h, IntKind.wrap_u16]
  omega
/-! ### who asks -/
def irqB (a : A) : Bool := a.exp || (a.asks && bit a.ctl 128)
theorem irq_calls (base : Nat) (W : World) (p : P) (a : A) (d : Drv.D) (u : Wave.V) (h : Is base W p a d u) (hc : U8 a.ctl) :
    Calls Tryd.prog 13 #[.pointer (some ⟨p.g, 0, none⟩)] W fun e W' => e = .returned (.bool (irqB a)) ∧ W = W' := by
  have c6 : W.cell? ⟨p.g, 6, none⟩ = some (.bool a.exp) := h.cell 6
  have c8 : W.cell? ⟨p.g, 8, none⟩ = some (.int .u8 a.ctl) := h.cell 8
  have c12 : W.cell? ⟨p.g, 12, none⟩ = some (.bool a.asks) := h.cell 12
  have a128 := and_bit a.ctl hc 128 (by decide)
  clear h hc
  unfold irqB
  cases h1 : a.exp <;> cases h2 : a.asks <;> cases h3 : bit a.ctl 128
  all_goals
    rw [h1] at c6
    rw [h2] at c12
    rw [h3] at a128
    clear h1 h2 h3
    go_enter Tryd.func13, Tryd.ntmps13
    go_wp2
    go_ret
    exact ⟨by first | rfl | simp, rfl⟩
/-! ### a cycle in which nothing passes -/
theorem clock_none (base : Nat) (W : World) (p : P) (a : A) (d : Drv.D) (u : Wave.V) (h : Is base W p a d u) (hc : 0 ≤ a.count ∧ a.count < 65536) (hu : Wave.Okv u) (hts : Wave.TS W) (hgb : 1 < base) (hf : Drive.Fit d) (hn : (Drv.clk d).2 = false) :
    Calls Tryd.prog 12 #[.pointer (some ⟨p.g, 0, none⟩)] W fun e W' => e = .returned (.tuple #[]) ∧ Is base W' p (tick a) (Drv.clk d).1 (Wave.clockV u) ∧ Turn base W W' (Foot p) := by
  have H := Aside0.mk h
  have c1 : W.cell? ⟨p.g, 1, none⟩ = some (.pointer (some ⟨p.gw, 0, none⟩)) := h.cell 1
  have HW := Aside0.mk (Wave.clock_calls base p.gw u W h.wv hu hts hgb)
  have HT := Aside0.mk (fun (W1 : World) (h1 : Is base W1 p a d (Wave.clockV u)) => tick_calls base W1 p a d (Wave.clockV u) h1 hc)
  have HD := Aside0.mk (fun (W1 : World) (h1 : Is base W1 p (tick a) d (Wave.clockV u)) => Drive.clock_calls base p.gd p.v d W1 h1.dr hf)
  rw [hn] at HD
  clear h hc hu hts hgb hf hn
  generalize Wave.clockV u = u' at *
  generalize hta : tick a = a' at *
  go_enter Tryd.func12, Tryd.ntmps12
  go_wp2_with fail
  refine HW.out.mono ?_
  rintro e w1 ⟨rfl, hi, ht⟩
  have H1 := Aside0.mk (H.out.after_wave hi ht); have T1 := Aside0.mk (of_wave ht); clear hi ht
  go_wp2_with fail
  refine (HT.out _ H1.out).mono ?_
  rintro e w2 ⟨rfl, hi, ht⟩
  have H2 := Aside0.mk hi; have T2 := Aside0.mk (T1.out.trans ht); clear hi ht
  have c0 : w2.cell? ⟨p.g, 0, none⟩ = some (.pointer (some ⟨p.gd, 0, none⟩)) := H2.out.cell 0
  go_wp2_with fail
  refine (HD.out _ H2.out).mono ?_
  rintro e w3 ⟨rfl, hi, ht⟩
  have H3 := Aside0.mk (H2.out.after_drive hi ht); have T3 := Aside0.mk (T2.out.trans (of_drive ht)); clear hi ht
  go_wp2
  first | go_end0 | ((try simp only [Exit.inBlock, Exit.then]); refine bodyPost_ret (results_none rfl _ _ _) rfl ?_)
  exact ⟨rfl, H3.out, T3.out⟩
end Go.Proofs.YtaiaapjlpbhlbaaDoor.Ada
