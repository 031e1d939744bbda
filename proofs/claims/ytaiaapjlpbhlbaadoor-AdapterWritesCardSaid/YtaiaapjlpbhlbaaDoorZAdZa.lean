/-
 THE ADAPTER's SMALL METHODS, each by its contract. By the prover of this repo.
 WHAT IS PUT INTO THE ADAPTER's REGISTERS. By the prover of this repo.
 WHAT IS PUT INTO THE ADAPTER's REGISTERS: the timer's, and the one that opens. By the prover of this repo.
 WHAT IS GOT OF THE ADAPTER's STATUS. By the prover of this repo.
 WHAT IS PUT INTO AND GOT OF THE ADAPTER's OTHER REGISTERS. By the prover of this repo.
 WHAT IS GOT OF THE ADAPTER's OTHER REGISTERS. By the prover of this repo.
-/
import Derived.Test.YtaiaapjlpbhlbaaDoorZAd
import Derived.Test.YtaiaapjlpbhlbaaDoorZWavClock
import Derived.Test.YtaiaapjlpbhlbaaDoorZPAdapterTimesx2
namespace Go.Proofs.YtaiaapjlpbhlbaaDoor.Ada
open Go.RowKit Go.Proofs.YtaiaapjlpbhlbaaDoorW.PrintWords Go.Proofs.YtaiaapjlpbhlbaaDoorW.PrintLast Go.Proofs.YtaiaapjlpbhlbaaDoorW.PrintMore
set_option linter.unusedVariables false
set_option linter.unusedSimpArgs false
set_option maxRecDepth 20000
def U8 (b : Int) : Prop := 0 ≤ b ∧ b < 256
def bit (b k : Int) : Bool := decide (b / k % 2 = 1)
theorem and_bit (b : Int) (hb : U8 b) (k : Int) (hk : k = 1 ∨ k = 2 ∨ k = 4 ∨ k = 8 ∨ k = 16 ∨ k = 64 ∨ k = 128) : Go.bits .and .u8 b k = if bit b k = true then k else 0 := by
 rcases hk with rfl | rfl | rfl | rfl | rfl | rfl | rfl
 ·exact Wave.fin_u8 (fun x => Go.bits .and .u8 x 1 = if bit x 1 = true then 1 else 0) (by decide +kernel) b hb.1 hb.2
 ·exact Wave.fin_u8 (fun x => Go.bits .and .u8 x 2 = if bit x 2 = true then 2 else 0) (by decide +kernel) b hb.1 hb.2
 ·exact Wave.fin_u8 (fun x => Go.bits .and .u8 x 4 = if bit x 4 = true then 4 else 0) (by decide +kernel) b hb.1 hb.2
 ·exact Wave.fin_u8 (fun x => Go.bits .and .u8 x 8 = if bit x 8 = true then 8 else 0) (by decide +kernel) b hb.1 hb.2
 ·exact Wave.fin_u8 (fun x => Go.bits .and .u8 x 16 = if bit x 16 = true then 16 else 0) (by decide +kernel) b hb.1 hb.2
 ·exact Wave.fin_u8 (fun x => Go.bits .and .u8 x 64 = if bit x 64 = true then 64 else 0) (by decide +kernel) b hb.1 hb.2
 ·exact Wave.fin_u8 (fun x => Go.bits .and .u8 x 128 = if bit x 128 = true then 128 else 0) (by decide +kernel) b hb.1 hb.2
theorem or16 (a b : Int) (ha : U8 a) (hb : U8 b) : Go.bits .or .u16 (a * 256) b = a * 256 + b := by
 obtain ⟨a0, a1⟩ := ha
 obtain ⟨b0, b1⟩ := hb
 obtain ⟨m, rfl⟩ := Int.eq_ofNat_of_zero_le a0
 obtain ⟨n, rfl⟩ := Int.eq_ofNat_of_zero_le b0
 have h : (BitVec.ofInt 16 ((m : Int) * 256) ||| BitVec.ofInt 16 (n : Int)).toNat = m * 256 + n := by
  rw [BitVec.toNat_or, BitVec.toNat_ofInt, BitVec.toNat_ofInt]
  have e1 : (((m : Int) * 256) % ((2 ^ 16 : Nat) : Int)).toNat = 2 ^ 8 * m := by omega
  have e2 : ((n : Int) % ((2 ^ 16 : Nat) : Int)).toNat = n := by omega
  rw [e1, e2, ← Nat.two_pow_add_eq_or_of_lt (by omega)]
  omega
 show IntKind.u16.wrap (((BitVec.ofInt 16 ((m : Int) * 256) ||| BitVec.ofInt 16 (n : Int)).toNat : Nat) : Int) = _
 rw [h, IntKind.wrap_u16]
 omega
theorem or16r (a b : Int) (ha : U8 a) (hb : U8 b) : Go.bits .or .u16 b (a * 256) = b + a * 256 := by
 have h := or16 a b ha hb
 have e : Go.bits .or .u16 b (a * 256) = Go.bits .or .u16 (a * 256) b := by
  show IntKind.u16.wrap (((BitVec.ofInt 16 b ||| BitVec.ofInt 16 (a * 256)).toNat : Nat) : Int) = IntKind.u16.wrap (((BitVec.ofInt 16 (a * 256) ||| BitVec.ofInt 16 b).toNat : Nat) : Int)
  rw [BitVec.or_comm]
 rw [e, h]
 omega
theorem and255 (x : Int) (h0 : 0 ≤ x) (h1 : x < 65536) : Go.bits .and .u16 x 255 = x % 256 := by
 have h : (BitVec.ofInt 16 x &&& BitVec.ofInt 16 255).toNat = (x % 2 ^ 16).toNat % 2 ^ 8 := by
  rw [BitVec.toNat_and, show (BitVec.ofInt 16 255).toNat = 2 ^ 8 - 1 by decide, Nat.and_two_pow_sub_one_eq_mod, BitVec.toNat_ofInt]; rfl
 show IntKind.u16.wrap (((BitVec.ofInt 16 x &&& BitVec.ofInt 16 255).toNat : Nat) : Int) = _
 rw [h, IntKind.wrap_u16]
 omega
/-! ### who asks -/
def irqB (a : A) : Bool := a.exp || (a.asks && bit a.ctl 128)
theorem irq_calls (base : Nat) (W : World) (p : P) (a : A) (d : Drv.D) (u : Wave.V) (h : Is base W p a d u) (hc : U8 a.ctl) :
  Calls Tryd.prog 13 #[.pointer (some ⟨p.g, 0, none⟩)] W fun e W' => e = .returned (.bool (irqB a)) ∧ W = W' := by
 have c6 : W.cell? ⟨p.g, 6, none⟩ = some (.bool a.exp) := h.cell 6
 have c8 : W.cell? ⟨p.g, 8, none⟩ = some (.int .u8 a.ctl) := h.cell 8
 have c12 : W.cell? ⟨p.g, 12, none⟩ = some (.bool a.asks) := h.cell 12
 have a128 := and_bit a.ctl hc 128 (by decide)
 clear h hc
 unfold irqB
 cases h1 : a.exp <;> cases h2 : a.asks <;> cases h3 : bit a.ctl 128
 all_goals
  rw [h1] at c6
  rw [h2] at c12
  rw [h3] at a128
  clear h1 h2 h3
  go_enter Tryd.func13, Tryd.ntmps13
  go_wp2
  go_ret
  exact ⟨by first | rfl | simp, rfl⟩
/-! ### a cycle in which nothing passes -/
theorem clock_none (base : Nat) (W : World) (p : P) (a : A) (d : Drv.D) (u : Wave.V) (h : Is base W p a d u) (hc : 0 ≤ a.count ∧ a.count < 65536) (hu : Wave.Okv u) (hts : Wave.TS W) (hgb : 1 < base) (hf : Drive.Fit d) (hn : (Drv.clk d).2 = false) :
  Calls Tryd.prog 12 #[.pointer (some ⟨p.g, 0, none⟩)] W fun e W' => e = .returned (.tuple #[]) ∧ Is base W' p (tick a) (Drv.clk d).1 (Wave.clockV u) ∧ Turn base W W' (Foot p) := by
 have H := Aside0.mk h
 have c1 : W.cell? ⟨p.g, 1, none⟩ = some (.pointer (some ⟨p.gw, 0, none⟩)) := h.cell 1
 have HW := Aside0.mk (Wave.clock_calls base p.gw u W h.wv hu hts hgb)
 have HT := Aside0.mk (fun (W1 : World) (h1 : Is base W1 p a d (Wave.clockV u)) => tick_calls base W1 p a d (Wave.clockV u) h1 hc)
 have HD := Aside0.mk (fun (W1 : World) (h1 : Is base W1 p (tick a) d (Wave.clockV u)) => Drive.clock_calls base p.gd p.v d W1 h1.dr hf)
 rw [hn] at HD
 clear h hc hu hts hgb hf hn
 generalize Wave.clockV u = u' at *
 generalize hta : tick a = a' at *
 go_enter Tryd.func12, Tryd.ntmps12
 go_wp2_with fail
 refine HW.out.mono ?_
 rintro e w1 ⟨rfl, hi, ht⟩
 have H1 := Aside0.mk (H.out.after_wave hi ht); have T1 := Aside0.mk (of_wave ht); clear hi ht
 go_wp2_with fail
 refine (HT.out _ H1.out).mono ?_
 rintro e w2 ⟨rfl, hi, ht⟩
 have H2 := Aside0.mk hi; have T2 := Aside0.mk (T1.out.trans ht); clear hi ht
 have c0 : w2.cell? ⟨p.g, 0, none⟩ = some (.pointer (some ⟨p.gd, 0, none⟩)) := H2.out.cell 0
 go_wp2_with fail
 refine (HD.out _ H2.out).mono ?_
 rintro e w3 ⟨rfl, hi, ht⟩
 have H3 := Aside0.mk (H2.out.after_drive hi ht); have T3 := Aside0.mk (T2.out.trans (of_drive ht)); clear hi ht
 go_wp2
 first | go_end0 | ((try simp only [Exit.inBlock, Exit.then]); refine bodyPost_ret (results_none rfl _ _ _) rfl ?_)
 exact ⟨rfl, H3.out, T3.out⟩
end Go.Proofs.YtaiaapjlpbhlbaaDoor.Ada

namespace Go.Proofs.YtaiaapjlpbhlbaaDoor.Ada
open Go.RowKit Go.Proofs.YtaiaapjlpbhlbaaDoorW.PrintWords Go.Proofs.YtaiaapjlpbhlbaaDoorW.PrintLast Go.Proofs.YtaiaapjlpbhlbaaDoorW.PrintMore
set_option linter.unusedVariables false
set_option linter.unusedSimpArgs false
set_option maxRecDepth 20000
def mot (d : Drv.D) (on : Bool) : Drv.D := if d.motor = on then d else Drive.back { d with motor := on }
def cmdA (a : A) (b : Int) : A := if bit b 64 = true ∧ bit b 2 = false then { a with ctl := b } else { a with ctl := b, found := false, sum := 32768, tail := 0 }
theorem command_calls (base : Nat) (W : World) (p : P) (a : A) (d : Drv.D) (u : Wave.V) (h : Is base W p a d u) (b : Int) (hb : U8 b) :
  Calls Tryd.prog 75 #[.pointer (some ⟨p.g, 0, none⟩), .int .u8 b] W fun e W' => e = .returned (.tuple #[]) ∧ Is base W' p (cmdA a b) (mot d (bit b 1)) u ∧ Turn base W W' (Foot p) := by
 have H := Aside0.mk h
 have c8 : W.cell? ⟨p.g, 8, none⟩ = some (.int .u8 a.ctl) := h.cell 8
 have f8 := h.frozen 8
 have a1 := and_bit b hb 1 (by decide)
 have a2 := and_bit b hb 2 (by decide)
 have a64 := and_bit b hb 64 (by decide)
 have H1 := Aside0.mk (h.set_ (a' := { a with ctl := b }) 8 (.int .u8 b) rfl)
 have c0 : (W.setCell ⟨p.g, 8, none⟩ (.int .u8 b)).cell? ⟨p.g, 0, none⟩ = some (.pointer (some ⟨p.gd, 0, none⟩)) := H1.out.cell 0
 have HM := Aside0.mk (Drive.motor_calls base p.gd p.v d (bit b 1) _ H1.out.dr)
 have HE := Aside0.mk (show (if d.motor = bit b 1 then d else Drive.back { d with motor := bit b 1 }) = mot d (bit b 1) from rfl)
 rw [HE.out] at HM
 have T1 := Aside0.mk ((Drive.Turn.refl base W (Foot p)).set_ (i := 8) (.inl rfl) h.bs (.int .u8 b))
 unfold cmdA
 generalize mot d (bit b 1) = d' at *
 clear h hb HE
 cases h1 : bit b 1 <;> cases h2 : bit b 2 <;> cases h3 : bit b 64
 all_goals
  rw [h1] at a1 HM
  rw [h2] at a2
  rw [h3] at a64
  clear h1 h2 h3
  go_enter Tryd.func75, Tryd.ntmps75
  go_wp2_with fail
  refine HM.out.mono ?_
  rintro e w2 ⟨rfl, hi, ht⟩
  have H2 := Aside0.mk (H1.out.after_drive hi ht); have T2 := Aside0.mk (T1.out.trans (of_drive ht)); clear hi ht
  have k13 : w2.cell? ⟨p.g, 13, none⟩ = some (.bool a.found) := H2.out.cell 13
  have k14 : w2.cell? ⟨p.g, 14, none⟩ = some (.int .u16 a.sum) := H2.out.cell 14
  have k15 : w2.cell? ⟨p.g, 15, none⟩ = some (.int .i64 a.tail) := H2.out.cell 15
  have f13 := H2.out.frozen 13
  have f14 := H2.out.frozen 14
  have f15 := H2.out.frozen 15
  have H5 := Aside0.mk (((H2.out.set_ (a' := { a with ctl := b, found := false }) 13 (.bool false) rfl).set_ (a' := { a with ctl := b, found := false, sum := 32768 }) 14 (.int .u16 32768) rfl).set_ (a' := { a with ctl := b, found := false, sum := 32768, tail := 0 }) 15 (.int .i64 0) rfl)
  have T5 := Aside0.mk (((T2.out.set_ (i := 13) (.inl rfl) H.out.bs (.bool false)).set_ (i := 14) (.inl rfl) H.out.bs (.int .u16 32768)).set_ (i := 15) (.inl rfl) H.out.bs (.int .i64 0))
  go_wp2
  go_end0
  first
   | exact ⟨rfl, H5.out, T5.out⟩
   | exact ⟨rfl, H2.out, T2.out⟩
def shutA (a : A) (b : Int) : A := if bit b 1 = true then { a with opn := b } else cmdA { a with opn := b, on := false, exp := false, asks := false } 0
def shutD (d : Drv.D) (b : Int) : Drv.D := if bit b 1 = true then d else mot d false
theorem shut_calls (base : Nat) (W : World) (p : P) (a : A) (d : Drv.D) (u : Wave.V) (h : Is base W p a d u) (b : Int) (hb : U8 b) :
  Calls Tryd.prog 41 #[.pointer (some ⟨p.g, 0, none⟩), .int .u8 b] W fun e W' => e = .returned (.tuple #[]) ∧ Is base W' p (shutA a b) (shutD d b) u ∧ Turn base W W' (Foot p) := by
 have H := Aside0.mk h
 have c7 : W.cell? ⟨p.g, 7, none⟩ = some (.int .u8 a.opn) := h.cell 7
 have c4 : W.cell? ⟨p.g, 4, none⟩ = some (.bool a.on) := h.cell 4
 have c6 : W.cell? ⟨p.g, 6, none⟩ = some (.bool a.exp) := h.cell 6
 have c12 : W.cell? ⟨p.g, 12, none⟩ = some (.bool a.asks) := h.cell 12
 have f7 := h.frozen 7
 have f4 := h.frozen 4
 have f6 := h.frozen 6
 have f12 := h.frozen 12
 have a1 := and_bit b hb 1 (by decide)
 have H1 := Aside0.mk (h.set_ (a' := { a with opn := b }) 7 (.int .u8 b) rfl)
 have T1 := Aside0.mk ((Drive.Turn.refl base W (Foot p)).set_ (i := 7) (.inl rfl) h.bs (.int .u8 b))
 unfold shutA shutD
 cases h1 : bit b 1
 ·rw [h1] at a1
  rw [if_neg (by decide), if_neg (by decide)]
  have H4 := Aside0.mk (((H1.out.set_ (a' := { a with opn := b, on := false }) 4 (.bool false) rfl).set_ (a' := { a with opn := b, on := false, exp := false }) 6 (.bool false) rfl).set_ (a' := { a with opn := b, on := false, exp := false, asks := false }) 12 (.bool false) rfl)
  have T4 := Aside0.mk (((T1.out.set_ (i := 4) (.inl rfl) h.bs (.bool false)).set_ (i := 6) (.inl rfl) h.bs (.bool false)).set_ (i := 12) (.inl rfl) h.bs (.bool false))
  have HC := Aside0.mk (command_calls base _ p _ d u H4.out 0 ⟨by decide, by decide⟩)
  rw [show bit 0 1 = false by decide] at HC
  clear h hb h1 H1 T1
  go_enter Tryd.func41, Tryd.ntmps41
  go_wp2_with fail
  refine HC.out.mono ?_
  rintro e w2 ⟨rfl, hi, ht⟩
  have H2 := Aside0.mk hi; have T2 := Aside0.mk (T4.out.trans ht); clear hi ht
  go_wp2
  go_end0
  exact ⟨rfl, H2.out, T2.out⟩
 ·rw [h1] at a1
  rw [if_pos (by decide), if_pos (by decide)]
  clear h hb h1
  go_enter Tryd.func41, Tryd.ntmps41
  go_wp2
  go_end0
  exact ⟨rfl, H1.out, T1.out⟩
end Go.Proofs.YtaiaapjlpbhlbaaDoor.Ada

namespace Go.Proofs.YtaiaapjlpbhlbaaDoor.Ada
open Go.RowKit Go.Proofs.YtaiaapjlpbhlbaaDoorW.PrintWords Go.Proofs.YtaiaapjlpbhlbaaDoorW.PrintLast Go.Proofs.YtaiaapjlpbhlbaaDoorW.PrintMore
set_option linter.unusedVariables false
set_option linter.unusedSimpArgs false
set_option maxRecDepth 20000
theorem andnot0 (b : Int) (hb : U8 b) : Go.bits .or .u16 (Go.bits .andNot .u16 0 255) b = b := by
 rw [show Go.bits .andNot .u16 0 255 = 0 * 256 by decide, or16 0 b ⟨by decide, by decide⟩ hb]
 omega
/-- the low byte, into nothing -/
theorem put_low (base : Nat) (W : World) (p : P) (a : A) (d : Drv.D) (u : Wave.V) (h : Is base W p a d u) (b : Int) (hb : U8 b) (h0 : a.from_ = 0) :
  Calls Tryd.prog 11 #[.pointer (some ⟨p.g, 0, none⟩), .int .u16 16416, .int .u8 b] W fun e W' => e = .returned (.tuple #[]) ∧ Is base W' p { a with from_ := b } d u ∧ Turn base W W' (Foot p) := by
 have H := Aside0.mk h
 have c2 : W.cell? ⟨p.g, 2, none⟩ = some (.int .u16 a.from_) := h.cell 2
 have f2 := h.frozen 2
 rw [h0] at c2
 have e1 := andnot0 b hb
 have e2 : IntKind.u16.wrap b = b := by obtain ⟨b0, b1⟩ := hb; rw [IntKind.wrap_u16]; omega
 clear h h0 hb
 go_enter Tryd.func11, Tryd.ntmps11
 go_wp2
 go_end0
 exact ⟨rfl, H.out.set_ 2 _ rfl, (Drive.Turn.refl _ _ _).set_ (.inl rfl) H.out.bs _⟩
theorem put_high (base : Nat) (W : World) (p : P) (a : A) (d : Drv.D) (u : Wave.V) (h : Is base W p a d u) (b : Int) (hb : U8 b) (h0 : U8 a.from_) :
  Calls Tryd.prog 11 #[.pointer (some ⟨p.g, 0, none⟩), .int .u16 16417, .int .u8 b] W fun e W' => e = .returned (.tuple #[]) ∧ Is base W' p { a with from_ := a.from_ + b * 256 } d u ∧ Turn base W W' (Foot p) := by
 have H := Aside0.mk h
 have c2 : W.cell? ⟨p.g, 2, none⟩ = some (.int .u16 a.from_) := h.cell 2
 have f2 := h.frozen 2
 have e1 : Go.bits .and .u16 a.from_ 255 = a.from_ := by obtain ⟨x0, x1⟩ := h0; rw [and255 _ x0 (by omega)]; omega
 have e2 : IntKind.u16.wrap b = b := by obtain ⟨b0, b1⟩ := hb; rw [IntKind.wrap_u16]; omega
 have e3 : Go.bits .or .u16 a.from_ (b * 256) = a.from_ + b * 256 := or16r b a.from_ hb h0
 have e4 : IntKind.u16.wrap (b * 256) = b * 256 := by obtain ⟨b0, b1⟩ := hb; rw [IntKind.wrap_u16]; omega
 clear h h0 hb
 go_enter Tryd.func11, Tryd.ntmps11
 go_wp2
 go_end0
 exact ⟨rfl, H.out.set_ 2 _ rfl, (Drive.Turn.refl _ _ _).set_ (.inl rfl) H.out.bs _⟩
theorem put_open (base : Nat) (W : World) (p : P) (a : A) (d : Drv.D) (u : Wave.V) (h : Is base W p a d u) (b : Int) (hb : U8 b) :
  Calls Tryd.prog 11 #[.pointer (some ⟨p.g, 0, none⟩), .int .u16 16419, .int .u8 b] W fun e W' => e = .returned (.tuple #[]) ∧ Is base W' p (shutA a b) (shutD d b) u ∧ Turn base W W' (Foot p) := by
 have HS := Aside0.mk (shut_calls base W p a d u h b hb)
 generalize shutA a b = a' at *
 generalize shutD d b = d' at *
 clear h hb
 go_enter Tryd.func11, Tryd.ntmps11
 go_wp2_with fail
 refine HS.out.mono ?_
 rintro e w2 ⟨rfl, hi, ht⟩
 have H2 := Aside0.mk hi; have T2 := Aside0.mk ht; clear hi ht
 go_wp2
 go_end0
 exact ⟨rfl, H2.out, T2.out⟩
def timA (a : A) (b : Int) : A := if bit b 2 = true then { a with on := true, rep := bit b 1, count := a.from_ } else { a with on := false, rep := bit b 1, exp := false }
theorem disk_timer (base : Nat) (W : World) (p : P) (a : A) (d : Drv.D) (u : Wave.V) (h : Is base W p a d u) (b : Int) (hb : U8 b) :
  Calls Tryd.prog 43 #[.pointer (some ⟨p.g, 0, none⟩), .int .u16 16418, .int .u8 b] W fun e W' => e = .returned (.tuple #[]) ∧ Is base W' p (timA a b) d u ∧ Turn base W W' (Foot p) := by
 have H := Aside0.mk h
 have c2 : W.cell? ⟨p.g, 2, none⟩ = some (.int .u16 a.from_) := h.cell 2
 have c3 : W.cell? ⟨p.g, 3, none⟩ = some (.int .u16 a.count) := h.cell 3
 have c4 : W.cell? ⟨p.g, 4, none⟩ = some (.bool a.on) := h.cell 4
 have c5 : W.cell? ⟨p.g, 5, none⟩ = some (.bool a.rep) := h.cell 5
 have c6 : W.cell? ⟨p.g, 6, none⟩ = some (.bool a.exp) := h.cell 6
 have f3 := h.frozen 3
 have f4 := h.frozen 4
 have f5 := h.frozen 5
 have f6 := h.frozen 6
 have a1 := and_bit b hb 1 (by decide)
 have a2 := and_bit b hb 2 (by decide)
 unfold timA
 cases h1 : bit b 1 <;> cases h2 : bit b 2
 all_goals
  rw [h1] at a1
  rw [h2] at a2
  clear h hb h1 h2
  go_enter Tryd.func43, Tryd.ntmps43
  go_wp2
  go_end0
 ·exact ⟨rfl, ((H.out.set_ (a' := { a with on := false }) 4 (.bool false) rfl).set_ (a' := { a with on := false, rep := false }) 5 (.bool false) rfl).set_ 6 (.bool false) rfl, (((Drive.Turn.refl _ _ _).set_ (.inl rfl) H.out.bs _).set_ (.inl rfl) H.out.bs _).set_ (.inl rfl) H.out.bs _⟩
 ·exact ⟨rfl, ((H.out.set_ (a' := { a with on := true }) 4 (.bool true) rfl).set_ (a' := { a with on := true, rep := false }) 5 (.bool false) rfl).set_ 3 (.int .u16 a.from_) rfl, (((Drive.Turn.refl _ _ _).set_ (.inl rfl) H.out.bs _).set_ (.inl rfl) H.out.bs _).set_ (.inl rfl) H.out.bs _⟩
 ·exact ⟨rfl, ((H.out.set_ (a' := { a with on := false }) 4 (.bool false) rfl).set_ (a' := { a with on := false, rep := true }) 5 (.bool true) rfl).set_ 6 (.bool false) rfl, (((Drive.Turn.refl _ _ _).set_ (.inl rfl) H.out.bs _).set_ (.inl rfl) H.out.bs _).set_ (.inl rfl) H.out.bs _⟩
 ·exact ⟨rfl, ((H.out.set_ (a' := { a with on := true }) 4 (.bool true) rfl).set_ (a' := { a with on := true, rep := true }) 5 (.bool true) rfl).set_ 3 (.int .u16 a.from_) rfl, (((Drive.Turn.refl _ _ _).set_ (.inl rfl) H.out.bs _).set_ (.inl rfl) H.out.bs _).set_ (.inl rfl) H.out.bs _⟩
theorem put_timer (base : Nat) (W : World) (p : P) (a : A) (d : Drv.D) (u : Wave.V) (h : Is base W p a d u) (ho : U8 a.opn) (h1 : bit a.opn 1 = true) (b : Int) (hb : U8 b) :
  Calls Tryd.prog 11 #[.pointer (some ⟨p.g, 0, none⟩), .int .u16 16418, .int .u8 b] W fun e W' => e = .returned (.tuple #[]) ∧ Is base W' p (timA a b) d u ∧ Turn base W W' (Foot p) := by
 have HS := Aside0.mk (disk_timer base W p a d u h b hb)
 have c7 : W.cell? ⟨p.g, 7, none⟩ = some (.int .u8 a.opn) := h.cell 7
 have a1 := and_bit a.opn ho 1 (by decide)
 rw [h1] at a1
 generalize timA a b = a' at *
 clear h hb ho h1
 go_enter Tryd.func11, Tryd.ntmps11
 go_wp2_with fail
 refine HS.out.mono ?_
 rintro e w2 ⟨rfl, hi, ht⟩
 have H2 := Aside0.mk hi; have T2 := Aside0.mk ht; clear hi ht
 go_wp2
 go_end0
 exact ⟨rfl, H2.out, T2.out⟩
end Go.Proofs.YtaiaapjlpbhlbaaDoor.Ada

namespace Go.Proofs.YtaiaapjlpbhlbaaDoor.Ada
open Go.RowKit Go.Proofs.YtaiaapjlpbhlbaaDoor.PAdapterTimes Go.Proofs.YtaiaapjlpbhlbaaDoorW.PrintWords Go.Proofs.YtaiaapjlpbhlbaaDoorW.PrintLast Go.Proofs.YtaiaapjlpbhlbaaDoorW.PrintMore
set_option linter.unusedVariables false
set_option linter.unusedSimpArgs false
set_option maxRecDepth 20000
def statI (e s x r h : Bool) : Int := (if e = true then 1 else 0) + (if s = true then 2 else 0) + (if x = true then 16 else 0) + (if r = true then 0 else 64) + (if h = true then 128 else 0)
theorem bits_status (e s x r h : Bool) : adapter_bits.f 20 [e, s, false, false, x, false, !r, h] = some (statI e s x r h) := by
 cases e <;> cases s <;> cases x <;> cases r <;> cases h <;> decide +kernel
theorem C_bools8 (W : World) (b0 b1 b2 b3 b4 b5 b6 b7 : Bool) : Kd.bool.C (W.alloc (.cells #[.bool b0, .bool b1, .bool b2, .bool b3, .bool b4, .bool b5, .bool b6, .bool b7] 4 (0, 0))) (some ⟨W.heap.size, 0, none⟩) 8 [b0, b1, b2, b3, b4, b5, b6, b7] := by
 refine Kd.C_of_reads (d := false) ⟨rfl, by decide, fun _ => ⟨_, rfl, fun j hj => ?_⟩⟩
 have hA : Drive.At (W.alloc (.cells #[.bool b0, .bool b1, .bool b2, .bool b3, .bool b4, .bool b5, .bool b6, .bool b7] 4 (0, 0))) W.heap.size 4 #[.bool b0, .bool b1, .bool b2, .bool b3, .bool b4, .bool b5, .bool b6, .bool b7] := heap_alloc_new W _
 rcases (show j = 0 ∨ j = 1 ∨ j = 2 ∨ j = 3 ∨ j = 4 ∨ j = 5 ∨ j = 6 ∨ j = 7 by omega) with rfl | rfl | rfl | rfl | rfl | rfl | rfl | rfl
 ·exact hA.cell 0
 ·exact hA.cell 1
 ·exact hA.cell 2
 ·exact hA.cell 3
 ·exact hA.cell 4
 ·exact hA.cell 5
 ·exact hA.cell 6
 ·exact hA.cell 7
/-- shut: nothing is answered -/
theorem get_shut (base : Nat) (W : World) (p : P) (a : A) (d : Drv.D) (u : Wave.V) (h : Is base W p a d u) (ho : U8 a.opn) (h1 : bit a.opn 1 = false) (at_ : Int) (h2 : at_ < 16448) :
  Calls Tryd.prog 14 #[.pointer (some ⟨p.g, 0, none⟩), .int .u16 at_] W fun e W' => e = .returned (.tuple #[.int .u8 0, .bool false]) ∧ W = W' := by
 have c7 : W.cell? ⟨p.g, 7, none⟩ = some (.int .u8 a.opn) := h.cell 7
 have a1 := and_bit a.opn ho 1 (by decide)
 rw [h1] at a1
 have d1 : decide (16448 ≤ at_) = false := decide_eq_false (by omega)
 clear h ho h1 h2
 go_enter Tryd.func14, Tryd.ntmps14
 go_wp2
 refine bodyPost_ret (v := .tuple #[.int .u8 0, .bool false]) (by simp [results, Tryd.results14, go_sem]) rfl ⟨rfl, rfl⟩
def statA (a : A) (d : Drv.D) : Int := statI a.exp a.asks (bit a.ctl 16 && decide (a.sum ≠ 0)) (Drive.readyB d) (Drive.hasB d)
set_option maxHeartbeats 4000000 in
theorem get_status (base : Nat) (W : World) (p : P) (a : A) (d : Drv.D) (u : Wave.V) (h : Is base W p a d u) (ho : U8 a.opn) (h1 : bit a.opn 1 = true) (hc : U8 a.ctl) :
  Calls Tryd.prog 14 #[.pointer (some ⟨p.g, 0, none⟩), .int .u16 16432] W fun e W' => e = .returned (.tuple #[.int .u8 (statA a d), .bool true]) ∧ Is base W' p { a with exp := false, asks := false } d u ∧ Turn base W W' (Foot p) := by
 have H := Aside0.mk h
 have c7 : W.cell? ⟨p.g, 7, none⟩ = some (.int .u8 a.opn) := h.cell 7
 have a1 := and_bit a.opn ho 1 (by decide)
 have a16 := and_bit a.ctl hc 16 (by decide)
 rw [h1] at a1
 have HH := Aside0.mk (Drive.has_calls base p.gd p.v d W.drew h.drew.dr)
 have HR := Aside0.mk (Drive.ready_calls base p.gd p.v d W.drew h.drew.dr)
 unfold statA
 generalize Drive.hasB d = s at *
 generalize Drive.readyB d = r at *
 have H1 := Aside0.mk h.drew
 have HBS := Aside0.mk (show base ≤ W.heap.size by have := h.bs; have := h.at_.lt; omega)
 have T1 := Aside0.mk (Drive.Turn.refl base W (Foot p)).drew
 clear h ho h1 hc
 go_enter Tryd.func14, Tryd.ntmps14
 go_wp2
 refine start_ (n := 12) (S := fun w' => w'.cell? ⟨p.g, 0, none⟩ = some (.pointer (some ⟨p.gd, 0, none⟩))) (ds := []) #[false, false, false, false, false, false, false, false, false, false, false, false] (by kernel_rfl) rfl rfl (H.out.drew.cell 0) (fun hHeld => ?_)
 refine pure_ (i := 0) (N := some 40) (v := ?_) (a' := ?_) #[true, false, false, false, false, false, false, false, false, false, false, false] rfl rfl (by kernel_rfl) (fun _ _ _ h => h) (Or.inl ⟨by rfl, ?_⟩) ?_ ?_
 rotate_left
 ·intro w'
  go_simp
  with_reducible rfl
 rotate_left
 ·simp only [Act.put, List.setIfInBounds_toArray, List.set_cons_zero, List.set_cons_succ, i64_w, i32_w]
  rfl
 refine pure_ (i := 1) (N := some 41) (v := ?_) (a' := ?_) #[true, true, false, false, false, false, false, false, false, false, false, false] rfl rfl (by kernel_rfl) (fun _ _ _ h => h) (Or.inl ⟨by rfl, ?_⟩) ?_ ?_
 rotate_left
 ·intro w'
  go_simp
  with_reducible rfl
 rotate_left
 ·simp only [Act.put, List.setIfInBounds_toArray, List.set_cons_zero, List.set_cons_succ, i64_w, i32_w]
  rfl
 refine pure_ (i := 2) (N := some 42) (v := ?_) (a' := ?_) #[true, true, true, false, false, false, false, false, false, false, false, false] rfl rfl (by kernel_rfl) (fun _ _ _ h => h) (Or.inl ⟨by rfl, ?_⟩) ?_ ?_
 rotate_left
 ·intro w'
  go_simp
  with_reducible rfl
 rotate_left
 ·simp only [Act.put, List.setIfInBounds_toArray, List.set_cons_zero, List.set_cons_succ, i64_w, i32_w]
  rfl
 refine pure_ (i := 5) (N := some 45) (v := ?_) (a' := ?_) #[true, true, true, false, false, true, false, false, false, false, false, false] rfl rfl (by kernel_rfl) (fun _ _ _ h => h) (Or.inl ⟨by rfl, ?_⟩) ?_ ?_
 rotate_left
 ·intro w'
  go_simp
  with_reducible rfl
 rotate_left
 ·simp only [Act.put, List.setIfInBounds_toArray, List.set_cons_zero, List.set_cons_succ, i64_w, i32_w]
  rfl
 refine pure_ (i := 6) (N := some 46) (v := ?_) (a' := ?_) #[true, true, true, false, false, true, true, false, false, false, false, false] rfl rfl (by kernel_rfl) (fun _ _ _ h => h) (Or.inl ⟨by rfl, ?_⟩) ?_ ?_
 rotate_left
 ·intro w'
  go_simp
  with_reducible rfl
 rotate_left
 ·simp only [Act.put, List.setIfInBounds_toArray, List.set_cons_zero, List.set_cons_succ, i64_w, i32_w]
  rfl
 refine pure_ (i := 7) (N := some 47) (v := ?_) (a' := ?_) #[true, true, true, false, false, true, true, true, false, false, false, false] rfl rfl (by kernel_rfl) (fun _ _ _ h => h) (Or.inl ⟨by rfl, ?_⟩) ?_ ?_
 rotate_left
 ·intro w'
  go_simp
  with_reducible rfl
 rotate_left
 ·simp only [Act.put, List.setIfInBounds_toArray, List.set_cons_zero, List.set_cons_succ, i64_w, i32_w]
  rfl
 refine take_ (i := 3) (N := some 43) (v := ?_) (a' := ?_) #[true, true, true, true, false, true, true, true, false, false, false, false] rfl rfl (by kernel_rfl) (fun _ _ _ h => h) (Or.inl ⟨by rfl, ?_⟩) hHeld ?_ ?_
 rotate_left
 ·intro w' s0
  go_simp
  with_reducible rfl
 rotate_left
 ·simp only [Act.put, List.setIfInBounds_toArray, List.set_cons_zero, List.set_cons_succ, i64_w, i32_w]
  rfl
 refine take_ (i := 8) (N := some 48) (v := ?_) (a' := ?_) #[true, true, true, true, false, true, true, true, true, false, false, false] rfl rfl (by kernel_rfl) (fun _ _ _ h => h) (Or.inl ⟨by rfl, ?_⟩) hHeld ?_ ?_
 rotate_left
 ·intro w' s0
  go_simp
  with_reducible rfl
 rotate_left
 ·simp only [Act.put, List.setIfInBounds_toArray, List.set_cons_zero, List.set_cons_succ, i64_w, i32_w]
  rfl
 refine one_ (i := 4) (N := some 44) #[true, true, true, true, true, true, true, true, true, false, false, false] rfl rfl (by kernel_rfl) (by decide) (fun K hK => ?_)
 refine goes_ Tryd.func33 (by kernel_rfl) rfl #[.pointer (some ⟨p.gd, 0, none⟩)] (by rfl) rfl rfl (by simp only [List.map_toArray, List.map_cons, List.map_nil]; rfl) ?_
 with_reducible refine (HH.out).mono ?_
 rintro e w6 ⟨rfl, rfl⟩
 refine ⟨_, rfl, ?_⟩
 refine hK.out _ _ (H.out.drew.cell 0) (fun hHeld => ?_)
 clear hK K
 refine norm_ (a' := ?_) ?_ ?_
 rotate_left
 ·show Act.put _ (some 44) _ = _
  simp only [Act.put, List.setIfInBounds_toArray, List.set_cons_zero, List.set_cons_succ, i64_w, i32_w]
  rfl
 refine one_ (i := 9) (N := some 49) #[true, true, true, true, true, true, true, true, true, true, false, false] rfl rfl (by kernel_rfl) (by decide) (fun K hK => ?_)
 refine goes_ Tryd.func52 (by kernel_rfl) rfl #[.pointer (some ⟨p.gd, 0, none⟩)] (by rfl) rfl rfl (by simp only [List.map_toArray, List.map_cons, List.map_nil]; rfl) ?_
 with_reducible refine (HR.out).mono ?_
 rintro e w6 ⟨rfl, rfl⟩
 refine ⟨_, rfl, ?_⟩
 refine hK.out _ _ (H.out.drew.cell 0) (fun hHeld => ?_)
 clear hK K
 refine norm_ (a' := ?_) ?_ ?_
 rotate_left
 ·show Act.put _ (some 49) _ = _
  simp only [Act.put, List.setIfInBounds_toArray, List.set_cons_zero, List.set_cons_succ, i64_w, i32_w]
  rfl
 refine pure_ (i := 10) (N := some 6) (v := ?_) (a' := ?_) #[true, true, true, true, true, true, true, true, true, true, true, false] rfl rfl (by kernel_rfl) (fun _ _ _ h => h) (Or.inl ⟨by rfl, ?_⟩) ?_ ?_
 rotate_left
 ·intro w'
  go_simp
  with_reducible rfl
 rotate_left
 ·simp only [Act.put, List.setIfInBounds_toArray, List.set_cons_zero, List.set_cons_succ, i64_w, i32_w]
  rfl
 refine pure_ (i := 11) (N := some 7) (v := ?_) (a' := ?_) #[true, true, true, true, true, true, true, true, true, true, true, true] rfl rfl (by kernel_rfl) (fun _ _ _ h => h) (Or.inl ⟨by rfl, ?_⟩) ?_ ?_
 rotate_left
 ·intro w'
  go_simp
  with_reducible rfl
 rotate_left
 ·simp only [Act.put, List.setIfInBounds_toArray, List.set_cons_zero, List.set_cons_succ, i64_w, i32_w]
  rfl
 refine done_ (by kernel_rfl) ?_
 clear HH HR c7
 generalize W.drew = w1 at *
 cases hb : bit a.ctl 16
 ·rw [hb] at a16
  have HX := Aside0.mk (show (bit a.ctl 16 && decide (a.sum ≠ 0)) = false by rw [hb]; rfl)
  clear hb
  have c6 : w1.cell? ⟨p.g, 6, none⟩ = some (.bool a.exp) := H1.out.cell 6
  have c12 : w1.cell? ⟨p.g, 12, none⟩ = some (.bool a.asks) := H1.out.cell 12
  have CB := Aside0.mk (fun (W1 : World) => Kd.C_below (C_bools8 W1 a.exp a.asks false false false false (!r) s) (below_drew1 (Below.refl _ _)))
  have HBI := Aside0.mk (fun (W1 : World) => show Calls Tryd.prog 53 #[.slice (some ⟨W1.heap.size, 0, none⟩) 8 8] (W1.alloc (.cells #[.bool a.exp, .bool a.asks, .bool false, .bool false, .bool false, .bool false, .bool (!r), .bool s] 4)).drew fun e w' => e = .returned (.int .u8 (statI a.exp a.asks false r s)) ∧ Drawn0 (W1.alloc (.cells #[.bool a.exp, .bool a.asks, .bool false, .bool false, .bool false, .bool false, .bool (!r), .bool s] 4)).drew w' from adapter_bits.calls 20 _ 8 [a.exp, a.asks, false, false, false, false, !r, s] _ _ (CB.out W1) (Nat.le_refl _) (bits_status a.exp a.asks false r s))
  have HAL := Aside0.mk (H1.out.below (below_alloc (Below.refl _ _) (.cells #[.bool a.exp, .bool a.asks, .bool false, .bool false, .bool false, .bool false, .bool (!r), .bool s] 4))).drew
  go_wp2
  refine start_ (n := 28) (S := fun w' => w'.cell? ⟨p.g, 6, none⟩ = some (.bool a.exp) ∧ w'.cell? ⟨p.g, 12, none⟩ = some (.bool a.asks) ∧ w'.cell? ⟨p.g, 8, none⟩ = some (.int .u8 a.ctl) ∧ w'.cell? ⟨p.g, 14, none⟩ = some (.int .u16 a.sum)) (ds := []) #[false, false, false, false, false, false, false, false, false, false, false, false, false, false, false, false, false, false, false, false, false, false, false, false, false, false, false, false] (by kernel_rfl) rfl rfl ⟨H1.out.drew.cell 6, H1.out.drew.cell 12, H1.out.drew.cell 8, H1.out.drew.cell 14⟩ (fun hHeld => ?_)
  refine pure_ (i := 0) (N := some 53) (v := ?_) (a' := ?_) #[true, false, false, false, false, false, false, false, false, false, false, false, false, false, false, false, false, false, false, false, false, false, false, false, false, false, false, false] rfl rfl (by kernel_rfl) (fun _ _ _ h => h) (Or.inl ⟨by rfl, ?_⟩) ?_ ?_
  rotate_left
  ·intro w'
   go_simp
   with_reducible rfl
  rotate_left
  ·simp only [Act.put, List.setIfInBounds_toArray, List.set_cons_zero, List.set_cons_succ, i64_w, i32_w]
   rfl
  refine pure_ (i := 1) (N := some 54) (v := ?_) (a' := ?_) #[true, true, false, false, false, false, false, false, false, false, false, false, false, false, false, false, false, false, false, false, false, false, false, false, false, false, false, false] rfl rfl (by kernel_rfl) (fun _ _ _ h => h) (Or.inl ⟨by rfl, ?_⟩) ?_ ?_
  rotate_left
  ·intro w'
   go_simp
   with_reducible rfl
  rotate_left
  ·simp only [Act.put, List.setIfInBounds_toArray, List.set_cons_zero, List.set_cons_succ, i64_w, i32_w]
   rfl
  refine pure_ (i := 2) (N := some 55) (v := ?_) (a' := ?_) #[true, true, true, false, false, false, false, false, false, false, false, false, false, false, false, false, false, false, false, false, false, false, false, false, false, false, false, false] rfl rfl (by kernel_rfl) (fun _ _ _ h => h) (Or.inl ⟨by rfl, ?_⟩) ?_ ?_
  rotate_left
  ·intro w'
   go_simp
   with_reducible rfl
  rotate_left
  ·simp only [Act.put, List.setIfInBounds_toArray, List.set_cons_zero, List.set_cons_succ, i64_w, i32_w]
   rfl
  refine pure_ (i := 3) (N := some 56) (v := ?_) (a' := ?_) #[true, true, true, true, false, false, false, false, false, false, false, false, false, false, false, false, false, false, false, false, false, false, false, false, false, false, false, false] rfl rfl (by kernel_rfl) (fun _ _ _ h => h) (Or.inl ⟨by rfl, ?_⟩) ?_ ?_
  rotate_left
  ·intro w'
   go_simp
   with_reducible rfl
  rotate_left
  ·simp only [Act.put, List.setIfInBounds_toArray, List.set_cons_zero, List.set_cons_succ, i64_w, i32_w]
   rfl
  refine pure_ (i := 5) (N := some 58) (v := ?_) (a' := ?_) #[true, true, true, true, false, true, false, false, false, false, false, false, false, false, false, false, false, false, false, false, false, false, false, false, false, false, false, false] rfl rfl (by kernel_rfl) (fun _ _ _ h => h) (Or.inl ⟨by rfl, ?_⟩) ?_ ?_
  rotate_left
  ·intro w'
   go_simp
   with_reducible rfl
  rotate_left
  ·simp only [Act.put, List.setIfInBounds_toArray, List.set_cons_zero, List.set_cons_succ, i64_w, i32_w]
   rfl
  refine pure_ (i := 6) (N := some 59) (v := ?_) (a' := ?_) #[true, true, true, true, false, true, true, false, false, false, false, false, false, false, false, false, false, false, false, false, false, false, false, false, false, false, false, false] rfl rfl (by kernel_rfl) (fun _ _ _ h => h) (Or.inl ⟨by rfl, ?_⟩) ?_ ?_
  rotate_left
  ·intro w'
   go_simp
   with_reducible rfl
  rotate_left
  ·simp only [Act.put, List.setIfInBounds_toArray, List.set_cons_zero, List.set_cons_succ, i64_w, i32_w]
   rfl
  refine pure_ (i := 7) (N := some 60) (v := ?_) (a' := ?_) #[true, true, true, true, false, true, true, true, false, false, false, false, false, false, false, false, false, false, false, false, false, false, false, false, false, false, false, false] rfl rfl (by kernel_rfl) (fun _ _ _ h => h) (Or.inl ⟨by rfl, ?_⟩) ?_ ?_
  rotate_left
  ·intro w'
   go_simp
   with_reducible rfl
  rotate_left
  ·simp only [Act.put, List.setIfInBounds_toArray, List.set_cons_zero, List.set_cons_succ, i64_w, i32_w]
   rfl
  refine pure_ (i := 9) (N := some 62) (v := ?_) (a' := ?_) #[true, true, true, true, false, true, true, true, false, true, false, false, false, false, false, false, false, false, false, false, false, false, false, false, false, false, false, false] rfl rfl (by kernel_rfl) (fun _ _ _ h => h) (Or.inl ⟨by rfl, ?_⟩) ?_ ?_
  rotate_left
  ·intro w'
   go_simp
   with_reducible rfl
  rotate_left
  ·simp only [Act.put, List.setIfInBounds_toArray, List.set_cons_zero, List.set_cons_succ, i64_w, i32_w]
   rfl
  refine pure_ (i := 10) (N := some 63) (v := ?_) (a' := ?_) #[true, true, true, true, false, true, true, true, false, true, true, false, false, false, false, false, false, false, false, false, false, false, false, false, false, false, false, false] rfl rfl (by kernel_rfl) (fun _ _ _ h => h) (Or.inl ⟨by rfl, ?_⟩) ?_ ?_
  rotate_left
  ·intro w'
   go_simp
   with_reducible rfl
  rotate_left
  ·simp only [Act.put, List.setIfInBounds_toArray, List.set_cons_zero, List.set_cons_succ, i64_w, i32_w]
   rfl
  refine pure_ (i := 11) (N := some 64) (v := ?_) (a' := ?_) #[true, true, true, true, false, true, true, true, false, true, true, true, false, false, false, false, false, false, false, false, false, false, false, false, false, false, false, false] rfl rfl (by kernel_rfl) (fun _ _ _ h => h) (Or.inl ⟨by rfl, ?_⟩) ?_ ?_
  rotate_left
  ·intro w'
   go_simp
   with_reducible rfl
  rotate_left
  ·simp only [Act.put, List.setIfInBounds_toArray, List.set_cons_zero, List.set_cons_succ, i64_w, i32_w]
   rfl
  refine pure_ (i := 22) (N := some 75) (v := ?_) (a' := ?_) #[true, true, true, true, false, true, true, true, false, true, true, true, false, false, false, false, false, false, false, false, false, false, true, false, false, false, false, false] rfl rfl (by kernel_rfl) (fun _ _ _ h => h) (Or.inl ⟨by rfl, ?_⟩) ?_ ?_
  rotate_left
  ·intro w'
   go_simp
   with_reducible rfl
  rotate_left
  ·simp only [Act.put, List.setIfInBounds_toArray, List.set_cons_zero, List.set_cons_succ, i64_w, i32_w]
   rfl
  refine pure_ (i := 23) (N := some 76) (v := ?_) (a' := ?_) #[true, true, true, true, false, true, true, true, false, true, true, true, false, false, false, false, false, false, false, false, false, false, true, true, false, false, false, false] rfl rfl (by kernel_rfl) (fun _ _ _ h => h) (Or.inl ⟨by rfl, ?_⟩) ?_ ?_
  rotate_left
  ·intro w'
   go_simp
   with_reducible rfl
  rotate_left
  ·simp only [Act.put, List.setIfInBounds_toArray, List.set_cons_zero, List.set_cons_succ, i64_w, i32_w]
   rfl
  refine pure_ (i := 24) (N := some 77) (v := ?_) (a' := ?_) #[true, true, true, true, false, true, true, true, false, true, true, true, false, false, false, false, false, false, false, false, false, false, true, true, true, false, false, false] rfl rfl (by kernel_rfl) (fun _ _ _ h => h) (Or.inl ⟨by rfl, ?_⟩) ?_ ?_
  rotate_left
  ·intro w'
   go_simp
   with_reducible rfl
  rotate_left
  ·simp only [Act.put, List.setIfInBounds_toArray, List.set_cons_zero, List.set_cons_succ, i64_w, i32_w]
   rfl
  refine take_ (i := 4) (N := some 57) (v := ?_) (a' := ?_) #[true, true, true, true, true, true, true, true, false, true, true, true, false, false, false, false, false, false, false, false, false, false, true, true, true, false, false, false] rfl rfl (by kernel_rfl) (fun _ _ _ h => h) (Or.inl ⟨by rfl, ?_⟩) hHeld ?_ ?_
  rotate_left
  ·rintro w' ⟨s0, s1, s2, s3⟩
   go_simp
   with_reducible rfl
  rotate_left
  ·simp only [Act.put, List.setIfInBounds_toArray, List.set_cons_zero, List.set_cons_succ, i64_w, i32_w]
   rfl
  refine take_ (i := 8) (N := some 61) (v := ?_) (a' := ?_) #[true, true, true, true, true, true, true, true, true, true, true, true, false, false, false, false, false, false, false, false, false, false, true, true, true, false, false, false] rfl rfl (by kernel_rfl) (fun _ _ _ h => h) (Or.inl ⟨by rfl, ?_⟩) hHeld ?_ ?_
  rotate_left
  ·rintro w' ⟨s0, s1, s2, s3⟩
   go_simp
   with_reducible rfl
  rotate_left
  ·simp only [Act.put, List.setIfInBounds_toArray, List.set_cons_zero, List.set_cons_succ, i64_w, i32_w]
   rfl
  refine take_ (i := 12) (N := some 65) (v := ?_) (a' := ?_) #[true, true, true, true, true, true, true, true, true, true, true, true, true, false, false, false, false, false, false, false, false, false, true, true, true, false, false, false] rfl rfl (by kernel_rfl) (fun _ _ _ h => h) (Or.inl ⟨by rfl, ?_⟩) hHeld ?_ ?_
  rotate_left
  ·rintro w' ⟨s0, s1, s2, s3⟩
   go_simp
   with_reducible rfl
  rotate_left
  ·simp only [Act.put, List.setIfInBounds_toArray, List.set_cons_zero, List.set_cons_succ, i64_w, i32_w]
   rfl
  refine pure_ (i := 13) (N := some 66) (v := ?_) (a' := ?_) #[true, true, true, true, true, true, true, true, true, true, true, true, true, true, false, false, false, false, false, false, false, false, true, true, true, false, false, false] rfl rfl (by kernel_rfl) (fun _ _ _ h => h) (Or.inl ⟨by rfl, ?_⟩) ?_ ?_
  rotate_left
  ·intro w'
   go_simp
   with_reducible rfl
  rotate_left
  ·simp only [Act.put, List.setIfInBounds_toArray, List.set_cons_zero, List.set_cons_succ, i64_w, i32_w]
   rfl
  refine pure_ (i := 14) (N := some 67) (v := ?_) (a' := ?_) #[true, true, true, true, true, true, true, true, true, true, true, true, true, true, true, false, false, false, false, false, false, false, true, true, true, false, false, false] rfl rfl (by kernel_rfl) (fun _ _ _ h => h) (Or.inl ⟨by rfl, ?_⟩) ?_ ?_
  rotate_left
  ·intro w'
   go_simp
   with_reducible rfl
  rotate_left
  ·simp only [Act.put, List.setIfInBounds_toArray, List.set_cons_zero, List.set_cons_succ, i64_w, i32_w]
   rfl
  refine pure_ (i := 15) (N := some 68) (v := ?_) (a' := ?_) #[true, true, true, true, true, true, true, true, true, true, true, true, true, true, true, true, false, false, false, false, false, false, true, true, true, false, false, false] rfl rfl (by kernel_rfl) (fun _ _ _ h => h) (Or.inl ⟨by rfl, ?_⟩) ?_ ?_
  rotate_left
  ·intro w'
   go_simp
   with_reducible rfl
  rotate_left
  ·simp only [Act.put, List.setIfInBounds_toArray, List.set_cons_zero, List.set_cons_succ, i64_w, i32_w]
   rfl
  refine pure_ (i := 16) (N := some 69) (v := undef) (a' := ?_) #[true, true, true, true, true, true, true, true, true, true, true, true, true, true, true, true, true, false, false, false, false, false, true, true, true, false, false, false] rfl rfl (by kernel_rfl) (fun _ _ _ h => h) (Or.inr ⟨by rfl, rfl⟩) ?_ ?_
  rotate_left
  ·simp only [Act.put, List.setIfInBounds_toArray, List.set_cons_zero, List.set_cons_succ, i64_w, i32_w]
   rfl
  refine pure_ (i := 17) (N := some 70) (v := undef) (a' := ?_) #[true, true, true, true, true, true, true, true, true, true, true, true, true, true, true, true, true, true, false, false, false, false, true, true, true, false, false, false] rfl rfl (by kernel_rfl) (fun _ _ _ h => h) (Or.inr ⟨by rfl, rfl⟩) ?_ ?_
  rotate_left
  ·simp only [Act.put, List.setIfInBounds_toArray, List.set_cons_zero, List.set_cons_succ, i64_w, i32_w]
   rfl
  refine pure_ (i := 18) (N := some 71) (v := undef) (a' := ?_) #[true, true, true, true, true, true, true, true, true, true, true, true, true, true, true, true, true, true, true, false, false, false, true, true, true, false, false, false] rfl rfl (by kernel_rfl) (fun _ _ _ h => h) (Or.inr ⟨by rfl, rfl⟩) ?_ ?_
  rotate_left
  ·simp only [Act.put, List.setIfInBounds_toArray, List.set_cons_zero, List.set_cons_succ, i64_w, i32_w]
   rfl
  refine pure_ (i := 19) (N := some 72) (v := undef) (a' := ?_) #[true, true, true, true, true, true, true, true, true, true, true, true, true, true, true, true, true, true, true, true, false, false, true, true, true, false, false, false] rfl rfl (by kernel_rfl) (fun _ _ _ h => h) (Or.inr ⟨by rfl, rfl⟩) ?_ ?_
  rotate_left
  ·simp only [Act.put, List.setIfInBounds_toArray, List.set_cons_zero, List.set_cons_succ, i64_w, i32_w]
   rfl
  refine pure_ (i := 20) (N := some 73) (v := undef) (a' := ?_) #[true, true, true, true, true, true, true, true, true, true, true, true, true, true, true, true, true, true, true, true, true, false, true, true, true, false, false, false] rfl rfl (by kernel_rfl) (fun _ _ _ h => h) (Or.inr ⟨by rfl, rfl⟩) ?_ ?_
  rotate_left
  ·simp only [Act.put, List.setIfInBounds_toArray, List.set_cons_zero, List.set_cons_succ, i64_w, i32_w]
   rfl
  refine pure_ (i := 21) (N := some 74) (v := ?_) (a' := ?_) #[true, true, true, true, true, true, true, true, true, true, true, true, true, true, true, true, true, true, true, true, true, true, true, true, true, false, false, false] rfl rfl (by kernel_rfl) (fun _ _ _ h => h) (Or.inl ⟨by rfl, ?_⟩) ?_ ?_
  rotate_left
  ·intro w'
   go_simp
   with_reducible rfl
  rotate_left
  ·simp only [Act.put, List.setIfInBounds_toArray, List.set_cons_zero, List.set_cons_succ, i64_w, i32_w]
   rfl
  refine one_ (i := 25) (N := some 78) #[true, true, true, true, true, true, true, true, true, true, true, true, true, true, true, true, true, true, true, true, true, true, true, true, true, true, false, false] rfl rfl (by kernel_rfl) (by decide) (fun K hK => ?_)
  refine value_ (w1 := ?_) (v := ?_) (by rfl) rfl ?_ ?_
  rotate_left 2
  ·go_simp
   constructor
   ·rfl
   ·rfl
  refine hK.out _ _ ⟨HAL.out.cell 6, HAL.out.cell 12, HAL.out.cell 8, HAL.out.cell 14⟩ (fun hHeld => ?_)
  clear hK K
  refine norm_ (a' := ?_) ?_ ?_
  rotate_left
  ·show Act.put _ (some 78) _ = _
   simp only [Act.put, List.setIfInBounds_toArray, List.set_cons_zero, List.set_cons_succ, i64_w, i32_w]
   rfl
  refine one_ (i := 26) (N := some 79) #[true, true, true, true, true, true, true, true, true, true, true, true, true, true, true, true, true, true, true, true, true, true, true, true, true, true, true, false] rfl rfl (by kernel_rfl) (by decide) (fun K hK => ?_)
  refine goes_ Tryd.func53 (by kernel_rfl) rfl #[.slice (some ⟨w1.heap.size, 0, none⟩) 8 8] (by rfl) rfl rfl (by simp only [List.map_toArray, List.map_cons, List.map_nil]; rfl) ?_
  with_reducible refine (HBI.out w1).mono ?_
  rintro e w7 ⟨rfl, ⟨n7, rfl⟩⟩
  refine ⟨_, rfl, ?_⟩
  refine hK.out _ _ ⟨(HAL.out.drewN n7).cell 6, (HAL.out.drewN n7).cell 12, (HAL.out.drewN n7).cell 8, (HAL.out.drewN n7).cell 14⟩ (fun hHeld => ?_)
  clear hK K
  refine norm_ (a' := ?_) ?_ ?_
  rotate_left
  ·show Act.put _ (some 79) _ = _
   simp only [Act.put, List.setIfInBounds_toArray, List.set_cons_zero, List.set_cons_succ, i64_w, i32_w]
   rfl
  refine pure_ (i := 27) (N := some 8) (v := ?_) (a' := ?_) #[true, true, true, true, true, true, true, true, true, true, true, true, true, true, true, true, true, true, true, true, true, true, true, true, true, true, true, true] rfl rfl (by kernel_rfl) (fun _ _ _ h => h) (Or.inl ⟨by rfl, ?_⟩) ?_ ?_
  rotate_left
  ·intro w'
   go_simp
   with_reducible rfl
  rotate_left
  ·simp only [Act.put, List.setIfInBounds_toArray, List.set_cons_zero, List.set_cons_succ, i64_w, i32_w]
   rfl
  refine done_ (by kernel_rfl) ?_
  clear c6 c12 CB HBI HAL
  have HA2 := Aside0.mk (H1.out.below (below_alloc (Below.refl _ _) (.cells #[.bool a.exp, .bool a.asks, .bool false, .bool false, .bool false, .bool false, .bool (!r), .bool s] 4)))
  have T2 := Aside0.mk (T1.out.trans (Drive.Turn.of_below (S := Foot p) (below_alloc (Below.refl _ _) (.cells #[.bool a.exp, .bool a.asks, .bool false, .bool false, .bool false, .bool false, .bool (!r), .bool s] 4)) (Nat.le_trans HBS.out T1.out.below.size)))
  have k6 : (w1.alloc (.cells #[.bool a.exp, .bool a.asks, .bool false, .bool false, .bool false, .bool false, .bool (!r), .bool s] 4)).cell? ⟨p.g, 6, none⟩ = some (.bool a.exp) := HA2.out.cell 6
  have k12 : (w1.alloc (.cells #[.bool a.exp, .bool a.asks, .bool false, .bool false, .bool false, .bool false, .bool (!r), .bool s] 4)).cell? ⟨p.g, 12, none⟩ = some (.bool a.asks) := HA2.out.cell 12
  have f6 := HA2.out.frozen 6
  have f12 := HA2.out.frozen 12
  generalize w1.alloc (.cells #[.bool a.exp, .bool a.asks, .bool false, .bool false, .bool false, .bool false, .bool (!r), .bool s] 4) = w2 at *
  go_wp2
  first | go_ret2 | ((try simp only [Exit.inBlock, Exit.then]); refine bodyPost_ret (results_tmp2 rfl _ _ _) rfl ?_)
  exact ⟨by rw [HX.out]; rfl, (((HA2.out.drewN (1 + n7)).set_ (a' := { a with exp := false }) 6 (.bool false) rfl).set_ (a' := { a with exp := false, asks := false }) 12 (.bool false) rfl), ((T2.out.drewN (1 + n7)).set_ (.inl rfl) HA2.out.bs _).set_ (.inl rfl) HA2.out.bs _⟩
 ·rw [hb] at a16
  have HX := Aside0.mk (show (bit a.ctl 16 && decide (a.sum ≠ 0)) = (a.sum != 0) by rw [hb, Bool.true_and]; by_cases hs : a.sum = 0 <;> simp [hs])
  clear hb
  have c6 : w1.cell? ⟨p.g, 6, none⟩ = some (.bool a.exp) := H1.out.cell 6
  have c12 : w1.cell? ⟨p.g, 12, none⟩ = some (.bool a.asks) := H1.out.cell 12
  have CB := Aside0.mk (fun (W1 : World) => Kd.C_below (C_bools8 W1 a.exp a.asks false false (a.sum != 0) false (!r) s) (below_drew1 (Below.refl _ _)))
  have HBI := Aside0.mk (fun (W1 : World) => show Calls Tryd.prog 53 #[.slice (some ⟨W1.heap.size, 0, none⟩) 8 8] (W1.alloc (.cells #[.bool a.exp, .bool a.asks, .bool false, .bool false, .bool (a.sum != 0), .bool false, .bool (!r), .bool s] 4)).drew fun e w' => e = .returned (.int .u8 (statI a.exp a.asks (a.sum != 0) r s)) ∧ Drawn0 (W1.alloc (.cells #[.bool a.exp, .bool a.asks, .bool false, .bool false, .bool (a.sum != 0), .bool false, .bool (!r), .bool s] 4)).drew w' from adapter_bits.calls 20 _ 8 [a.exp, a.asks, false, false, (a.sum != 0), false, !r, s] _ _ (CB.out W1) (Nat.le_refl _) (bits_status a.exp a.asks (a.sum != 0) r s))
  have HAL := Aside0.mk (H1.out.below (below_alloc (Below.refl _ _) (.cells #[.bool a.exp, .bool a.asks, .bool false, .bool false, .bool (a.sum != 0), .bool false, .bool (!r), .bool s] 4))).drew
  go_wp2
  refine start_ (n := 28) (S := fun w' => w'.cell? ⟨p.g, 6, none⟩ = some (.bool a.exp) ∧ w'.cell? ⟨p.g, 12, none⟩ = some (.bool a.asks) ∧ w'.cell? ⟨p.g, 8, none⟩ = some (.int .u8 a.ctl) ∧ w'.cell? ⟨p.g, 14, none⟩ = some (.int .u16 a.sum)) (ds := []) #[false, false, false, false, false, false, false, false, false, false, false, false, false, false, false, false, false, false, false, false, false, false, false, false, false, false, false, false] (by kernel_rfl) rfl rfl ⟨H1.out.drew.cell 6, H1.out.drew.cell 12, H1.out.drew.cell 8, H1.out.drew.cell 14⟩ (fun hHeld => ?_)
  refine pure_ (i := 0) (N := some 53) (v := ?_) (a' := ?_) #[true, false, false, false, false, false, false, false, false, false, false, false, false, false, false, false, false, false, false, false, false, false, false, false, false, false, false, false] rfl rfl (by kernel_rfl) (fun _ _ _ h => h) (Or.inl ⟨by rfl, ?_⟩) ?_ ?_
  rotate_left
  ·intro w'
   go_simp
   with_reducible rfl
  rotate_left
  ·simp only [Act.put, List.setIfInBounds_toArray, List.set_cons_zero, List.set_cons_succ, i64_w, i32_w]
   rfl
  refine pure_ (i := 1) (N := some 54) (v := ?_) (a' := ?_) #[true, true, false, false, false, false, false, false, false, false, false, false, false, false, false, false, false, false, false, false, false, false, false, false, false, false, false, false] rfl rfl (by kernel_rfl) (fun _ _ _ h => h) (Or.inl ⟨by rfl, ?_⟩) ?_ ?_
  rotate_left
  ·intro w'
   go_simp
   with_reducible rfl
  rotate_left
  ·simp only [Act.put, List.setIfInBounds_toArray, List.set_cons_zero, List.set_cons_succ, i64_w, i32_w]
   rfl
  refine pure_ (i := 2) (N := some 55) (v := ?_) (a' := ?_) #[true, true, true, false, false, false, false, false, false, false, false, false, false, false, false, false, false, false, false, false, false, false, false, false, false, false, false, false] rfl rfl (by kernel_rfl) (fun _ _ _ h => h) (Or.inl ⟨by rfl, ?_⟩) ?_ ?_
  rotate_left
  ·intro w'
   go_simp
   with_reducible rfl
  rotate_left
  ·simp only [Act.put, List.setIfInBounds_toArray, List.set_cons_zero, List.set_cons_succ, i64_w, i32_w]
   rfl
  refine pure_ (i := 3) (N := some 56) (v := ?_) (a' := ?_) #[true, true, true, true, false, false, false, false, false, false, false, false, false, false, false, false, false, false, false, false, false, false, false, false, false, false, false, false] rfl rfl (by kernel_rfl) (fun _ _ _ h => h) (Or.inl ⟨by rfl, ?_⟩) ?_ ?_
  rotate_left
  ·intro w'
   go_simp
   with_reducible rfl
  rotate_left
  ·simp only [Act.put, List.setIfInBounds_toArray, List.set_cons_zero, List.set_cons_succ, i64_w, i32_w]
   rfl
  refine pure_ (i := 5) (N := some 58) (v := ?_) (a' := ?_) #[true, true, true, true, false, true, false, false, false, false, false, false, false, false, false, false, false, false, false, false, false, false, false, false, false, false, false, false] rfl rfl (by kernel_rfl) (fun _ _ _ h => h) (Or.inl ⟨by rfl, ?_⟩) ?_ ?_
  rotate_left
  ·intro w'
   go_simp
   with_reducible rfl
  rotate_left
  ·simp only [Act.put, List.setIfInBounds_toArray, List.set_cons_zero, List.set_cons_succ, i64_w, i32_w]
   rfl
  refine pure_ (i := 6) (N := some 59) (v := ?_) (a' := ?_) #[true, true, true, true, false, true, true, false, false, false, false, false, false, false, false, false, false, false, false, false, false, false, false, false, false, false, false, false] rfl rfl (by kernel_rfl) (fun _ _ _ h => h) (Or.inl ⟨by rfl, ?_⟩) ?_ ?_
  rotate_left
  ·intro w'
   go_simp
   with_reducible rfl
  rotate_left
  ·simp only [Act.put, List.setIfInBounds_toArray, List.set_cons_zero, List.set_cons_succ, i64_w, i32_w]
   rfl
  refine pure_ (i := 7) (N := some 60) (v := ?_) (a' := ?_) #[true, true, true, true, false, true, true, true, false, false, false, false, false, false, false, false, false, false, false, false, false, false, false, false, false, false, false, false] rfl rfl (by kernel_rfl) (fun _ _ _ h => h) (Or.inl ⟨by rfl, ?_⟩) ?_ ?_
  rotate_left
  ·intro w'
   go_simp
   with_reducible rfl
  rotate_left
  ·simp only [Act.put, List.setIfInBounds_toArray, List.set_cons_zero, List.set_cons_succ, i64_w, i32_w]
   rfl
  refine pure_ (i := 9) (N := some 62) (v := ?_) (a' := ?_) #[true, true, true, true, false, true, true, true, false, true, false, false, false, false, false, false, false, false, false, false, false, false, false, false, false, false, false, false] rfl rfl (by kernel_rfl) (fun _ _ _ h => h) (Or.inl ⟨by rfl, ?_⟩) ?_ ?_
  rotate_left
  ·intro w'
   go_simp
   with_reducible rfl
  rotate_left
  ·simp only [Act.put, List.setIfInBounds_toArray, List.set_cons_zero, List.set_cons_succ, i64_w, i32_w]
   rfl
  refine pure_ (i := 10) (N := some 63) (v := ?_) (a' := ?_) #[true, true, true, true, false, true, true, true, false, true, true, false, false, false, false, false, false, false, false, false, false, false, false, false, false, false, false, false] rfl rfl (by kernel_rfl) (fun _ _ _ h => h) (Or.inl ⟨by rfl, ?_⟩) ?_ ?_
  rotate_left
  ·intro w'
   go_simp
   with_reducible rfl
  rotate_left
  ·simp only [Act.put, List.setIfInBounds_toArray, List.set_cons_zero, List.set_cons_succ, i64_w, i32_w]
   rfl
  refine pure_ (i := 11) (N := some 64) (v := ?_) (a' := ?_) #[true, true, true, true, false, true, true, true, false, true, true, true, false, false, false, false, false, false, false, false, false, false, false, false, false, false, false, false] rfl rfl (by kernel_rfl) (fun _ _ _ h => h) (Or.inl ⟨by rfl, ?_⟩) ?_ ?_
  rotate_left
  ·intro w'
   go_simp
   with_reducible rfl
  rotate_left
  ·simp only [Act.put, List.setIfInBounds_toArray, List.set_cons_zero, List.set_cons_succ, i64_w, i32_w]
   rfl
  refine pure_ (i := 22) (N := some 75) (v := ?_) (a' := ?_) #[true, true, true, true, false, true, true, true, false, true, true, true, false, false, false, false, false, false, false, false, false, false, true, false, false, false, false, false] rfl rfl (by kernel_rfl) (fun _ _ _ h => h) (Or.inl ⟨by rfl, ?_⟩) ?_ ?_
  rotate_left
  ·intro w'
   go_simp
   with_reducible rfl
  rotate_left
  ·simp only [Act.put, List.setIfInBounds_toArray, List.set_cons_zero, List.set_cons_succ, i64_w, i32_w]
   rfl
  refine pure_ (i := 23) (N := some 76) (v := ?_) (a' := ?_) #[true, true, true, true, false, true, true, true, false, true, true, true, false, false, false, false, false, false, false, false, false, false, true, true, false, false, false, false] rfl rfl (by kernel_rfl) (fun _ _ _ h => h) (Or.inl ⟨by rfl, ?_⟩) ?_ ?_
  rotate_left
  ·intro w'
   go_simp
   with_reducible rfl
  rotate_left
  ·simp only [Act.put, List.setIfInBounds_toArray, List.set_cons_zero, List.set_cons_succ, i64_w, i32_w]
   rfl
  refine pure_ (i := 24) (N := some 77) (v := ?_) (a' := ?_) #[true, true, true, true, false, true, true, true, false, true, true, true, false, false, false, false, false, false, false, false, false, false, true, true, true, false, false, false] rfl rfl (by kernel_rfl) (fun _ _ _ h => h) (Or.inl ⟨by rfl, ?_⟩) ?_ ?_
  rotate_left
  ·intro w'
   go_simp
   with_reducible rfl
  rotate_left
  ·simp only [Act.put, List.setIfInBounds_toArray, List.set_cons_zero, List.set_cons_succ, i64_w, i32_w]
   rfl
  refine take_ (i := 4) (N := some 57) (v := ?_) (a' := ?_) #[true, true, true, true, true, true, true, true, false, true, true, true, false, false, false, false, false, false, false, false, false, false, true, true, true, false, false, false] rfl rfl (by kernel_rfl) (fun _ _ _ h => h) (Or.inl ⟨by rfl, ?_⟩) hHeld ?_ ?_
  rotate_left
  ·rintro w' ⟨s0, s1, s2, s3⟩
   go_simp
   with_reducible rfl
  rotate_left
  ·simp only [Act.put, List.setIfInBounds_toArray, List.set_cons_zero, List.set_cons_succ, i64_w, i32_w]
   rfl
  refine take_ (i := 8) (N := some 61) (v := ?_) (a' := ?_) #[true, true, true, true, true, true, true, true, true, true, true, true, false, false, false, false, false, false, false, false, false, false, true, true, true, false, false, false] rfl rfl (by kernel_rfl) (fun _ _ _ h => h) (Or.inl ⟨by rfl, ?_⟩) hHeld ?_ ?_
  rotate_left
  ·rintro w' ⟨s0, s1, s2, s3⟩
   go_simp
   with_reducible rfl
  rotate_left
  ·simp only [Act.put, List.setIfInBounds_toArray, List.set_cons_zero, List.set_cons_succ, i64_w, i32_w]
   rfl
  refine take_ (i := 12) (N := some 65) (v := ?_) (a' := ?_) #[true, true, true, true, true, true, true, true, true, true, true, true, true, false, false, false, false, false, false, false, false, false, true, true, true, false, false, false] rfl rfl (by kernel_rfl) (fun _ _ _ h => h) (Or.inl ⟨by rfl, ?_⟩) hHeld ?_ ?_
  rotate_left
  ·rintro w' ⟨s0, s1, s2, s3⟩
   go_simp
   with_reducible rfl
  rotate_left
  ·simp only [Act.put, List.setIfInBounds_toArray, List.set_cons_zero, List.set_cons_succ, i64_w, i32_w]
   rfl
  refine pure_ (i := 13) (N := some 66) (v := ?_) (a' := ?_) #[true, true, true, true, true, true, true, true, true, true, true, true, true, true, false, false, false, false, false, false, false, false, true, true, true, false, false, false] rfl rfl (by kernel_rfl) (fun _ _ _ h => h) (Or.inl ⟨by rfl, ?_⟩) ?_ ?_
  rotate_left
  ·intro w'
   go_simp
   with_reducible rfl
  rotate_left
  ·simp only [Act.put, List.setIfInBounds_toArray, List.set_cons_zero, List.set_cons_succ, i64_w, i32_w]
   rfl
  refine pure_ (i := 14) (N := some 67) (v := ?_) (a' := ?_) #[true, true, true, true, true, true, true, true, true, true, true, true, true, true, true, false, false, false, false, false, false, false, true, true, true, false, false, false] rfl rfl (by kernel_rfl) (fun _ _ _ h => h) (Or.inl ⟨by rfl, ?_⟩) ?_ ?_
  rotate_left
  ·intro w'
   go_simp
   with_reducible rfl
  rotate_left
  ·simp only [Act.put, List.setIfInBounds_toArray, List.set_cons_zero, List.set_cons_succ, i64_w, i32_w]
   rfl
  refine pure_ (i := 15) (N := some 68) (v := ?_) (a' := ?_) #[true, true, true, true, true, true, true, true, true, true, true, true, true, true, true, true, false, false, false, false, false, false, true, true, true, false, false, false] rfl rfl (by kernel_rfl) (fun _ _ _ h => h) (Or.inl ⟨by rfl, ?_⟩) ?_ ?_
  rotate_left
  ·intro w'
   go_simp
   with_reducible rfl
  rotate_left
  ·simp only [Act.put, List.setIfInBounds_toArray, List.set_cons_zero, List.set_cons_succ, i64_w, i32_w]
   rfl
  refine pure_ (i := 16) (N := some 69) (v := ?_) (a' := ?_) #[true, true, true, true, true, true, true, true, true, true, true, true, true, true, true, true, true, false, false, false, false, false, true, true, true, false, false, false] rfl rfl (by kernel_rfl) (fun _ _ _ h => h) (Or.inl ⟨by rfl, ?_⟩) ?_ ?_
  rotate_left
  ·intro w'
   go_simp
   with_reducible rfl
  rotate_left
  ·simp only [Act.put, List.setIfInBounds_toArray, List.set_cons_zero, List.set_cons_succ, i64_w, i32_w]
   rfl
  refine pure_ (i := 17) (N := some 70) (v := ?_) (a' := ?_) #[true, true, true, true, true, true, true, true, true, true, true, true, true, true, true, true, true, true, false, false, false, false, true, true, true, false, false, false] rfl rfl (by kernel_rfl) (fun _ _ _ h => h) (Or.inl ⟨by rfl, ?_⟩) ?_ ?_
  rotate_left
  ·intro w'
   go_simp
   with_reducible rfl
  rotate_left
  ·simp only [Act.put, List.setIfInBounds_toArray, List.set_cons_zero, List.set_cons_succ, i64_w, i32_w]
   rfl
  refine pure_ (i := 18) (N := some 71) (v := ?_) (a' := ?_) #[true, true, true, true, true, true, true, true, true, true, true, true, true, true, true, true, true, true, true, false, false, false, true, true, true, false, false, false] rfl rfl (by kernel_rfl) (fun _ _ _ h => h) (Or.inl ⟨by rfl, ?_⟩) ?_ ?_
  rotate_left
  ·intro w'
   go_simp
   with_reducible rfl
  rotate_left
  ·simp only [Act.put, List.setIfInBounds_toArray, List.set_cons_zero, List.set_cons_succ, i64_w, i32_w]
   rfl
  refine take_ (i := 19) (N := some 72) (v := ?_) (a' := ?_) #[true, true, true, true, true, true, true, true, true, true, true, true, true, true, true, true, true, true, true, true, false, false, true, true, true, false, false, false] rfl rfl (by kernel_rfl) (fun _ _ _ h => h) (Or.inl ⟨by rfl, ?_⟩) hHeld ?_ ?_
  rotate_left
  ·rintro w' ⟨s0, s1, s2, s3⟩
   go_simp
   with_reducible rfl
  rotate_left
  ·simp only [Act.put, List.setIfInBounds_toArray, List.set_cons_zero, List.set_cons_succ, i64_w, i32_w]
   rfl
  refine pure_ (i := 20) (N := some 73) (v := ?_) (a' := ?_) #[true, true, true, true, true, true, true, true, true, true, true, true, true, true, true, true, true, true, true, true, true, false, true, true, true, false, false, false] rfl rfl (by kernel_rfl) (fun _ _ _ h => h) (Or.inl ⟨by rfl, ?_⟩) ?_ ?_
  rotate_left
  ·intro w'
   go_simp
   with_reducible rfl
  rotate_left
  ·simp only [Act.put, List.setIfInBounds_toArray, List.set_cons_zero, List.set_cons_succ, i64_w, i32_w]
   rfl
  refine pure_ (i := 21) (N := some 74) (v := ?_) (a' := ?_) #[true, true, true, true, true, true, true, true, true, true, true, true, true, true, true, true, true, true, true, true, true, true, true, true, true, false, false, false] rfl rfl (by kernel_rfl) (fun _ _ _ h => h) (Or.inl ⟨by rfl, ?_⟩) ?_ ?_
  rotate_left
  ·intro w'
   go_simp
   with_reducible rfl
  rotate_left
  ·simp only [Act.put, List.setIfInBounds_toArray, List.set_cons_zero, List.set_cons_succ, i64_w, i32_w]
   rfl
  refine one_ (i := 25) (N := some 78) #[true, true, true, true, true, true, true, true, true, true, true, true, true, true, true, true, true, true, true, true, true, true, true, true, true, true, false, false] rfl rfl (by kernel_rfl) (by decide) (fun K hK => ?_)
  refine value_ (w1 := ?_) (v := ?_) (by rfl) rfl ?_ ?_
  rotate_left 2
  ·go_simp
   constructor
   ·rfl
   ·rfl
  refine hK.out _ _ ⟨HAL.out.cell 6, HAL.out.cell 12, HAL.out.cell 8, HAL.out.cell 14⟩ (fun hHeld => ?_)
  clear hK K
  refine norm_ (a' := ?_) ?_ ?_
  rotate_left
  ·show Act.put _ (some 78) _ = _
   simp only [Act.put, List.setIfInBounds_toArray, List.set_cons_zero, List.set_cons_succ, i64_w, i32_w]
   rfl
  refine one_ (i := 26) (N := some 79) #[true, true, true, true, true, true, true, true, true, true, true, true, true, true, true, true, true, true, true, true, true, true, true, true, true, true, true, false] rfl rfl (by kernel_rfl) (by decide) (fun K hK => ?_)
  refine goes_ Tryd.func53 (by kernel_rfl) rfl #[.slice (some ⟨w1.heap.size, 0, none⟩) 8 8] (by rfl) rfl rfl (by simp only [List.map_toArray, List.map_cons, List.map_nil]; rfl) ?_
  with_reducible refine (HBI.out w1).mono ?_
  rintro e w7 ⟨rfl, ⟨n7, rfl⟩⟩
  refine ⟨_, rfl, ?_⟩
  refine hK.out _ _ ⟨(HAL.out.drewN n7).cell 6, (HAL.out.drewN n7).cell 12, (HAL.out.drewN n7).cell 8, (HAL.out.drewN n7).cell 14⟩ (fun hHeld => ?_)
  clear hK K
  refine norm_ (a' := ?_) ?_ ?_
  rotate_left
  ·show Act.put _ (some 79) _ = _
   simp only [Act.put, List.setIfInBounds_toArray, List.set_cons_zero, List.set_cons_succ, i64_w, i32_w]
   rfl
  refine pure_ (i := 27) (N := some 8) (v := ?_) (a' := ?_) #[true, true, true, true, true, true, true, true, true, true, true, true, true, true, true, true, true, true, true, true, true, true, true, true, true, true, true, true] rfl rfl (by kernel_rfl) (fun _ _ _ h => h) (Or.inl ⟨by rfl, ?_⟩) ?_ ?_
  rotate_left
  ·intro w'
   go_simp
   with_reducible rfl
  rotate_left
  ·simp only [Act.put, List.setIfInBounds_toArray, List.set_cons_zero, List.set_cons_succ, i64_w, i32_w]
   rfl
  refine done_ (by kernel_rfl) ?_
  clear c6 c12 CB HBI HAL
  have HA2 := Aside0.mk (H1.out.below (below_alloc (Below.refl _ _) (.cells #[.bool a.exp, .bool a.asks, .bool false, .bool false, .bool (a.sum != 0), .bool false, .bool (!r), .bool s] 4)))
  have T2 := Aside0.mk (T1.out.trans (Drive.Turn.of_below (S := Foot p) (below_alloc (Below.refl _ _) (.cells #[.bool a.exp, .bool a.asks, .bool false, .bool false, .bool (a.sum != 0), .bool false, .bool (!r), .bool s] 4)) (Nat.le_trans HBS.out T1.out.below.size)))
  have k6 : (w1.alloc (.cells #[.bool a.exp, .bool a.asks, .bool false, .bool false, .bool (a.sum != 0), .bool false, .bool (!r), .bool s] 4)).cell? ⟨p.g, 6, none⟩ = some (.bool a.exp) := HA2.out.cell 6
  have k12 : (w1.alloc (.cells #[.bool a.exp, .bool a.asks, .bool false, .bool false, .bool (a.sum != 0), .bool false, .bool (!r), .bool s] 4)).cell? ⟨p.g, 12, none⟩ = some (.bool a.asks) := HA2.out.cell 12
  have f6 := HA2.out.frozen 6
  have f12 := HA2.out.frozen 12
  generalize w1.alloc (.cells #[.bool a.exp, .bool a.asks, .bool false, .bool false, .bool (a.sum != 0), .bool false, .bool (!r), .bool s] 4) = w2 at *
  go_wp2
  first | go_ret2 | ((try simp only [Exit.inBlock, Exit.then]); refine bodyPost_ret (results_tmp2 rfl _ _ _) rfl ?_)
  exact ⟨by rw [HX.out]; rfl, (((HA2.out.drewN (1 + n7)).set_ (a' := { a with exp := false }) 6 (.bool false) rfl).set_ (a' := { a with exp := false, asks := false }) 12 (.bool false) rfl), ((T2.out.drewN (1 + n7)).set_ (.inl rfl) HA2.out.bs _).set_ (.inl rfl) HA2.out.bs _⟩
end Go.Proofs.YtaiaapjlpbhlbaaDoor.Ada

namespace Go.Proofs.YtaiaapjlpbhlbaaDoor.Ada
open Go.RowKit Go.Proofs.YtaiaapjlpbhlbaaDoor.PAdapterTimes Go.Proofs.YtaiaapjlpbhlbaaDoorW.PrintWords Go.Proofs.YtaiaapjlpbhlbaaDoorW.PrintLast Go.Proofs.YtaiaapjlpbhlbaaDoorW.PrintMore
set_option linter.unusedVariables false
set_option linter.unusedSimpArgs false
set_option maxRecDepth 20000
/-- a register of its own, but the timer's -/
def diskA (a : A) (x b : Int) : A := if x = 16420 then { a with out := b, asks := false } else if x = 16421 then cmdA a b else if x = 16422 then { a with wire := b } else a
def diskD (d : Drv.D) (x b : Int) : Drv.D := if x = 16421 then mot d (bit b 1) else d
theorem disk_calls (base : Nat) (W : World) (p : P) (a : A) (d : Drv.D) (u : Wave.V) (h : Is base W p a d u) (x b : Int) (hb : U8 b) (hx : x ≠ 16418) :
  Calls Tryd.prog 43 #[.pointer (some ⟨p.g, 0, none⟩), .int .u16 x, .int .u8 b] W fun e W' => e = .returned (.tuple #[]) ∧ Is base W' p (diskA a x b) (diskD d x b) u ∧ Turn base W W' (Foot p) := by
 have H := Aside0.mk h
 have t0 : (x == 16418) = false := by simpa using hx
 unfold diskA diskD
 by_cases h1 : x = 16420
 ·subst h1
  rw [if_pos rfl, if_neg (by decide)]
  have c10 : W.cell? ⟨p.g, 10, none⟩ = some (.int .u8 a.out) := h.cell 10
  have c12 : W.cell? ⟨p.g, 12, none⟩ = some (.bool a.asks) := h.cell 12
  have f10 := h.frozen 10
  have f12 := h.frozen 12
  clear h hb hx
  go_enter Tryd.func43, Tryd.ntmps43
  go_wp2
  go_end0
  exact ⟨rfl, (H.out.set_ (a' := { a with out := b }) 10 (.int .u8 b) rfl).set_ 12 (.bool false) rfl, ((Drive.Turn.refl _ _ _).set_ (.inl rfl) H.out.bs _).set_ (.inl rfl) H.out.bs _⟩
 rw [if_neg h1]
 by_cases h2 : x = 16421
 ·subst h2
  rw [if_pos rfl, if_pos rfl]
  have HC := Aside0.mk (command_calls base W p a d u h b hb)
  generalize cmdA a b = a' at *
  generalize mot d (bit b 1) = d' at *
  clear h hb hx h1
  go_enter Tryd.func43, Tryd.ntmps43
  go_wp2_with fail
  refine HC.out.mono ?_
  rintro e w2 ⟨rfl, hi, ht⟩
  have H2 := Aside0.mk hi; have T2 := Aside0.mk ht; clear hi ht
  go_wp2
  go_end0
  exact ⟨rfl, H2.out, T2.out⟩
 rw [if_neg h2, if_neg h2]
 by_cases h3 : x = 16422
 ·subst h3
  rw [if_pos rfl]
  have c11 : W.cell? ⟨p.g, 11, none⟩ = some (.int .u8 a.wire) := h.cell 11
  have f11 := h.frozen 11
  clear h hb hx h1 h2
  go_enter Tryd.func43, Tryd.ntmps43
  go_wp2
  go_end0
  exact ⟨rfl, H.out.set_ 11 (.int .u8 b) rfl, (Drive.Turn.refl _ _ _).set_ (.inl rfl) H.out.bs _⟩
 ·rw [if_neg h3]
  have t1 : (x == 16420) = false := by simpa using h1
  have t2 : (x == 16421) = false := by simpa using h2
  have t3 : (x == 16422) = false := by simpa using h3
  clear h hb hx h1 h2 h3
  go_enter Tryd.func43, Tryd.ntmps43
  go_wp2
  go_end0
  exact ⟨rfl, H.out, Drive.Turn.refl _ _ _⟩
/-- from the output's register on -/
def putA (a : A) (x b : Int) : A := if 16448 ≤ x ∧ x ≤ 16522 then a else if bit a.opn 1 = true then diskA a x b else a
def putD (a : A) (d : Drv.D) (x b : Int) : Drv.D := if 16448 ≤ x ∧ x ≤ 16522 then d else if bit a.opn 1 = true then diskD d x b else d
def putU (a : A) (u : Wave.V) (x b : Int) : Wave.V := if 16448 ≤ x ∧ x ≤ 16522 ∧ bit a.opn 2 = true then Wave.putV u x b else u
theorem put_calls (base : Nat) (W : World) (p : P) (a : A) (d : Drv.D) (u : Wave.V) (h : Is base W p a d u) (ho : U8 a.opn) (hu : Wave.Wf u) (hm : Wave.MS W) (x b : Int) (hx : 16420 ≤ x ∧ x < 65536) (hb : U8 b) :
  Calls Tryd.prog 11 #[.pointer (some ⟨p.g, 0, none⟩), .int .u16 x, .int .u8 b] W fun e W' => e = .returned (.tuple #[]) ∧ Is base W' p (putA a x b) (putD a d x b) (putU a u x b) ∧ Turn base W W' (Foot p) := by
 have H := Aside0.mk h
 have c7 : W.cell? ⟨p.g, 7, none⟩ = some (.int .u8 a.opn) := h.cell 7
 have c1 : W.cell? ⟨p.g, 1, none⟩ = some (.pointer (some ⟨p.gw, 0, none⟩)) := h.cell 1
 have t0 : (x == 16416) = false := by rw [beq_eq_false_iff_ne]; omega
 have t1 : (x == 16417) = false := by rw [beq_eq_false_iff_ne]; omega
 have t2 : (x == 16419) = false := by rw [beq_eq_false_iff_ne]; omega
 have a1 := and_bit a.opn ho 1 (by decide)
 have a2 := and_bit a.opn ho 2 (by decide)
 unfold putA putD putU
 by_cases h1 : 16448 ≤ x ∧ x ≤ 16522
 ·rw [if_pos h1, if_pos h1]
  have k1 : decide (16448 ≤ x) = true := decide_eq_true h1.1
  have k2 : decide (x ≤ 16522) = true := decide_eq_true h1.2
  cases hb2 : bit a.opn 2
  ·rw [if_neg (by simp)]
   rw [hb2] at a2
   clear h ho hu hm hx hb h1 hb2
   go_enter Tryd.func11, Tryd.ntmps11
   go_wp2
   go_end0
   exact ⟨rfl, H.out, Drive.Turn.refl _ _ _⟩
  ·rw [if_pos ⟨h1.1, h1.2, rfl⟩]
   rw [hb2] at a2
   have HP := Aside0.mk (Wave.put_all base p.gw u W h.wv hu hm x (by omega) (by omega) b hb)
   generalize Wave.putV u x b = u' at *
   clear h ho hu hm hx hb h1 hb2
   go_enter Tryd.func11, Tryd.ntmps11
   go_wp2_with fail
   refine HP.out.mono ?_
   rintro e w2 ⟨rfl, hi, ht⟩
   have H2 := Aside0.mk (H.out.after_wave hi ht); have T2 := Aside0.mk (of_wave ht); clear hi ht
   go_wp2
   go_end0
   exact ⟨rfl, H2.out, T2.out⟩
 ·rw [if_neg h1, if_neg h1, if_neg (show ¬ (16448 ≤ x ∧ x ≤ 16522 ∧ bit a.opn 2 = true) from fun e => h1 ⟨e.1, e.2.1⟩)]
  cases hb1 : bit a.opn 1
  all_goals
   rw [hb1] at a1
   have HD := Aside0.mk (disk_calls base W p a d u h x b hb (by omega))
   generalize diskA a x b = a' at *
   generalize diskD d x b = d' at *
   by_cases h2 : 16448 ≤ x
   all_goals
    first | have k1 : decide (16448 ≤ x) = true := decide_eq_true h2 | have k1 : decide (16448 ≤ x) = false := decide_eq_false h2
    first | have k2 : decide (x ≤ 16522) = false := decide_eq_false (by omega) | have k2 : True := trivial
    clear h ho hu hm hx hb h1 h2 hb1
    go_enter Tryd.func11, Tryd.ntmps11
    go_wp2_with (go_at_call 43; refine HD.out.mono ?_; rintro e w2 ⟨rfl, hi, ht⟩)
    go_end0
    first | exact ⟨rfl, hi, ht⟩ | exact ⟨rfl, H.out, Drive.Turn.refl _ _ _⟩
end Go.Proofs.YtaiaapjlpbhlbaaDoor.Ada

namespace Go.Proofs.YtaiaapjlpbhlbaaDoor.Ada
open Go.RowKit Go.Proofs.YtaiaapjlpbhlbaaDoor.PAdapterTimes Go.Proofs.YtaiaapjlpbhlbaaDoorW.PrintWords Go.Proofs.YtaiaapjlpbhlbaaDoorW.PrintLast Go.Proofs.YtaiaapjlpbhlbaaDoorW.PrintMore
set_option linter.unusedVariables false
set_option linter.unusedSimpArgs false
set_option maxRecDepth 20000
def drvI (r h : Bool) : Int := 64 + (if h = true then 0 else 5) + (if r = true then 0 else 2)
theorem bits_drv (r h : Bool) : adapter_bits.f 20 [!h, !r, !h, false, false, false, true] = some (drvI r h) := by
 cases r <;> cases h <;> decide +kernel
theorem C_bools7 (W : World) (b0 b1 b2 b3 b4 b5 b6 : Bool) : Kd.bool.C (W.alloc (.cells #[.bool b0, .bool b1, .bool b2, .bool b3, .bool b4, .bool b5, .bool b6] 4 (0, 0))) (some ⟨W.heap.size, 0, none⟩) 7 [b0, b1, b2, b3, b4, b5, b6] := by
 refine Kd.C_of_reads (d := false) ⟨rfl, by decide, fun _ => ⟨_, rfl, fun j hj => ?_⟩⟩
 have hA : Drive.At (W.alloc (.cells #[.bool b0, .bool b1, .bool b2, .bool b3, .bool b4, .bool b5, .bool b6] 4 (0, 0))) W.heap.size 4 #[.bool b0, .bool b1, .bool b2, .bool b3, .bool b4, .bool b5, .bool b6] := heap_alloc_new W _
 rcases (show j = 0 ∨ j = 1 ∨ j = 2 ∨ j = 3 ∨ j = 4 ∨ j = 5 ∨ j = 6 by omega) with rfl | rfl | rfl | rfl | rfl | rfl | rfl
 ·exact hA.cell 0
 ·exact hA.cell 1
 ·exact hA.cell 2
 ·exact hA.cell 3
 ·exact hA.cell 4
 ·exact hA.cell 5
 ·exact hA.cell 6
theorem or128 (x : Int) (h : U8 x) : Go.bits .or .u8 x 128 = x % 128 + 128 := Wave.fin_u8 (fun x => Go.bits .or .u8 x 128 = x % 128 + 128) (by decide +kernel) x h.1 h.2
set_option maxHeartbeats 4000000 in
theorem get_in (base : Nat) (W : World) (p : P) (a : A) (d : Drv.D) (u : Wave.V) (h : Is base W p a d u) (ho : U8 a.opn) (h1 : bit a.opn 1 = true) :
  Calls Tryd.prog 14 #[.pointer (some ⟨p.g, 0, none⟩), .int .u16 16433] W fun e W' => e = .returned (.tuple #[.int .u8 a.inn, .bool true]) ∧ Is base W' p { a with asks := false } d u ∧ Turn base W W' (Foot p) := by
 have H := Aside0.mk h
 have c7 : W.cell? ⟨p.g, 7, none⟩ = some (.int .u8 a.opn) := h.cell 7
 have a1 := and_bit a.opn ho 1 (by decide)
 rw [h1] at a1
 have HH := Aside0.mk (Drive.has_calls base p.gd p.v d W.drew h.drew.dr)
 have HR := Aside0.mk (Drive.ready_calls base p.gd p.v d W.drew h.drew.dr)
 generalize Drive.hasB d = s at *
 generalize Drive.readyB d = r at *
 have H1 := Aside0.mk h.drew
 have HBS := Aside0.mk (show base ≤ W.heap.size by have := h.bs; have := h.at_.lt; omega)
 have T1 := Aside0.mk (Drive.Turn.refl base W (Foot p)).drew
 skip
 clear h ho h1 
 go_enter Tryd.func14, Tryd.ntmps14
 go_wp2
 refine start_ (n := 12) (S := fun w' => w'.cell? ⟨p.g, 0, none⟩ = some (.pointer (some ⟨p.gd, 0, none⟩))) (ds := []) #[false, false, false, false, false, false, false, false, false, false, false, false] (by kernel_rfl) rfl rfl (H.out.drew.cell 0) (fun hHeld => ?_)
 refine pure_ (i := 0) (N := some 40) (v := ?_) (a' := ?_) #[true, false, false, false, false, false, false, false, false, false, false, false] rfl rfl (by kernel_rfl) (fun _ _ _ h => h) (Or.inl ⟨by rfl, ?_⟩) ?_ ?_
 rotate_left
 ·intro w'
  go_simp
  with_reducible rfl
 rotate_left
 ·simp only [Act.put, List.setIfInBounds_toArray, List.set_cons_zero, List.set_cons_succ, i64_w, i32_w]
  rfl
 refine pure_ (i := 1) (N := some 41) (v := ?_) (a' := ?_) #[true, true, false, false, false, false, false, false, false, false, false, false] rfl rfl (by kernel_rfl) (fun _ _ _ h => h) (Or.inl ⟨by rfl, ?_⟩) ?_ ?_
 rotate_left
 ·intro w'
  go_simp
  with_reducible rfl
 rotate_left
 ·simp only [Act.put, List.setIfInBounds_toArray, List.set_cons_zero, List.set_cons_succ, i64_w, i32_w]
  rfl
 refine pure_ (i := 2) (N := some 42) (v := ?_) (a' := ?_) #[true, true, true, false, false, false, false, false, false, false, false, false] rfl rfl (by kernel_rfl) (fun _ _ _ h => h) (Or.inl ⟨by rfl, ?_⟩) ?_ ?_
 rotate_left
 ·intro w'
  go_simp
  with_reducible rfl
 rotate_left
 ·simp only [Act.put, List.setIfInBounds_toArray, List.set_cons_zero, List.set_cons_succ, i64_w, i32_w]
  rfl
 refine pure_ (i := 5) (N := some 45) (v := ?_) (a' := ?_) #[true, true, true, false, false, true, false, false, false, false, false, false] rfl rfl (by kernel_rfl) (fun _ _ _ h => h) (Or.inl ⟨by rfl, ?_⟩) ?_ ?_
 rotate_left
 ·intro w'
  go_simp
  with_reducible rfl
 rotate_left
 ·simp only [Act.put, List.setIfInBounds_toArray, List.set_cons_zero, List.set_cons_succ, i64_w, i32_w]
  rfl
 refine pure_ (i := 6) (N := some 46) (v := ?_) (a' := ?_) #[true, true, true, false, false, true, true, false, false, false, false, false] rfl rfl (by kernel_rfl) (fun _ _ _ h => h) (Or.inl ⟨by rfl, ?_⟩) ?_ ?_
 rotate_left
 ·intro w'
  go_simp
  with_reducible rfl
 rotate_left
 ·simp only [Act.put, List.setIfInBounds_toArray, List.set_cons_zero, List.set_cons_succ, i64_w, i32_w]
  rfl
 refine pure_ (i := 7) (N := some 47) (v := ?_) (a' := ?_) #[true, true, true, false, false, true, true, true, false, false, false, false] rfl rfl (by kernel_rfl) (fun _ _ _ h => h) (Or.inl ⟨by rfl, ?_⟩) ?_ ?_
 rotate_left
 ·intro w'
  go_simp
  with_reducible rfl
 rotate_left
 ·simp only [Act.put, List.setIfInBounds_toArray, List.set_cons_zero, List.set_cons_succ, i64_w, i32_w]
  rfl
 refine take_ (i := 3) (N := some 43) (v := ?_) (a' := ?_) #[true, true, true, true, false, true, true, true, false, false, false, false] rfl rfl (by kernel_rfl) (fun _ _ _ h => h) (Or.inl ⟨by rfl, ?_⟩) hHeld ?_ ?_
 rotate_left
 ·intro w' s0
  go_simp
  with_reducible rfl
 rotate_left
 ·simp only [Act.put, List.setIfInBounds_toArray, List.set_cons_zero, List.set_cons_succ, i64_w, i32_w]
  rfl
 refine take_ (i := 8) (N := some 48) (v := ?_) (a' := ?_) #[true, true, true, true, false, true, true, true, true, false, false, false] rfl rfl (by kernel_rfl) (fun _ _ _ h => h) (Or.inl ⟨by rfl, ?_⟩) hHeld ?_ ?_
 rotate_left
 ·intro w' s0
  go_simp
  with_reducible rfl
 rotate_left
 ·simp only [Act.put, List.setIfInBounds_toArray, List.set_cons_zero, List.set_cons_succ, i64_w, i32_w]
  rfl
 refine one_ (i := 4) (N := some 44) #[true, true, true, true, true, true, true, true, true, false, false, false] rfl rfl (by kernel_rfl) (by decide) (fun K hK => ?_)
 refine goes_ Tryd.func33 (by kernel_rfl) rfl #[.pointer (some ⟨p.gd, 0, none⟩)] (by rfl) rfl rfl (by simp only [List.map_toArray, List.map_cons, List.map_nil]; rfl) ?_
 with_reducible refine (HH.out).mono ?_
 rintro e w6 ⟨rfl, rfl⟩
 refine ⟨_, rfl, ?_⟩
 refine hK.out _ _ (H.out.drew.cell 0) (fun hHeld => ?_)
 clear hK K
 refine norm_ (a' := ?_) ?_ ?_
 rotate_left
 ·show Act.put _ (some 44) _ = _
  simp only [Act.put, List.setIfInBounds_toArray, List.set_cons_zero, List.set_cons_succ, i64_w, i32_w]
  rfl
 refine one_ (i := 9) (N := some 49) #[true, true, true, true, true, true, true, true, true, true, false, false] rfl rfl (by kernel_rfl) (by decide) (fun K hK => ?_)
 refine goes_ Tryd.func52 (by kernel_rfl) rfl #[.pointer (some ⟨p.gd, 0, none⟩)] (by rfl) rfl rfl (by simp only [List.map_toArray, List.map_cons, List.map_nil]; rfl) ?_
 with_reducible refine (HR.out).mono ?_
 rintro e w6 ⟨rfl, rfl⟩
 refine ⟨_, rfl, ?_⟩
 refine hK.out _ _ (H.out.drew.cell 0) (fun hHeld => ?_)
 clear hK K
 refine norm_ (a' := ?_) ?_ ?_
 rotate_left
 ·show Act.put _ (some 49) _ = _
  simp only [Act.put, List.setIfInBounds_toArray, List.set_cons_zero, List.set_cons_succ, i64_w, i32_w]
  rfl
 refine pure_ (i := 10) (N := some 6) (v := ?_) (a' := ?_) #[true, true, true, true, true, true, true, true, true, true, true, false] rfl rfl (by kernel_rfl) (fun _ _ _ h => h) (Or.inl ⟨by rfl, ?_⟩) ?_ ?_
 rotate_left
 ·intro w'
  go_simp
  with_reducible rfl
 rotate_left
 ·simp only [Act.put, List.setIfInBounds_toArray, List.set_cons_zero, List.set_cons_succ, i64_w, i32_w]
  rfl
 refine pure_ (i := 11) (N := some 7) (v := ?_) (a' := ?_) #[true, true, true, true, true, true, true, true, true, true, true, true] rfl rfl (by kernel_rfl) (fun _ _ _ h => h) (Or.inl ⟨by rfl, ?_⟩) ?_ ?_
 rotate_left
 ·intro w'
  go_simp
  with_reducible rfl
 rotate_left
 ·simp only [Act.put, List.setIfInBounds_toArray, List.set_cons_zero, List.set_cons_succ, i64_w, i32_w]
  rfl
 refine done_ (by kernel_rfl) ?_
 clear HH HR c7
 generalize W.drew = w1 at *
 have k9 : w1.cell? ⟨p.g, 9, none⟩ = some (.int .u8 a.inn) := H1.out.cell 9
 have k12 : w1.cell? ⟨p.g, 12, none⟩ = some (.bool a.asks) := H1.out.cell 12
 have f12 := H1.out.frozen 12
 have H2 := Aside0.mk (H1.out.set_ (a' := { a with asks := false }) 12 (.bool false) rfl)
 have k9b : (w1.setCell ⟨p.g, 12, none⟩ (.bool false)).cell? ⟨p.g, 9, none⟩ = some (.int .u8 a.inn) := H2.out.cell 9
 go_wp2
 first | go_ret2 | ((try simp only [Exit.inBlock, Exit.then]); refine bodyPost_ret (results_tmp2 rfl _ _ _) rfl ?_)
 exact ⟨rfl, H2.out, T1.out.set_ (.inl rfl) H1.out.bs _⟩
set_option maxHeartbeats 4000000 in
theorem get_wire (base : Nat) (W : World) (p : P) (a : A) (d : Drv.D) (u : Wave.V) (h : Is base W p a d u) (ho : U8 a.opn) (h1 : bit a.opn 1 = true) (hw : U8 a.wire) :
  Calls Tryd.prog 14 #[.pointer (some ⟨p.g, 0, none⟩), .int .u16 16435] W fun e W' => e = .returned (.tuple #[.int .u8 (a.wire % 128 + 128), .bool true]) ∧ Is base W' p a d u ∧ Turn base W W' (Foot p) := by
 have o128 := or128 a.wire hw
 have H := Aside0.mk h
 have c7 : W.cell? ⟨p.g, 7, none⟩ = some (.int .u8 a.opn) := h.cell 7
 have a1 := and_bit a.opn ho 1 (by decide)
 rw [h1] at a1
 have HH := Aside0.mk (Drive.has_calls base p.gd p.v d W.drew h.drew.dr)
 have HR := Aside0.mk (Drive.ready_calls base p.gd p.v d W.drew h.drew.dr)
 generalize Drive.hasB d = s at *
 generalize Drive.readyB d = r at *
 have H1 := Aside0.mk h.drew
 have HBS := Aside0.mk (show base ≤ W.heap.size by have := h.bs; have := h.at_.lt; omega)
 have T1 := Aside0.mk (Drive.Turn.refl base W (Foot p)).drew
 skip
 clear h ho h1 hw
 go_enter Tryd.func14, Tryd.ntmps14
 go_wp2
 refine start_ (n := 12) (S := fun w' => w'.cell? ⟨p.g, 0, none⟩ = some (.pointer (some ⟨p.gd, 0, none⟩))) (ds := []) #[false, false, false, false, false, false, false, false, false, false, false, false] (by kernel_rfl) rfl rfl (H.out.drew.cell 0) (fun hHeld => ?_)
 refine pure_ (i := 0) (N := some 40) (v := ?_) (a' := ?_) #[true, false, false, false, false, false, false, false, false, false, false, false] rfl rfl (by kernel_rfl) (fun _ _ _ h => h) (Or.inl ⟨by rfl, ?_⟩) ?_ ?_
 rotate_left
 ·intro w'
  go_simp
  with_reducible rfl
 rotate_left
 ·simp only [Act.put, List.setIfInBounds_toArray, List.set_cons_zero, List.set_cons_succ, i64_w, i32_w]
  rfl
 refine pure_ (i := 1) (N := some 41) (v := ?_) (a' := ?_) #[true, true, false, false, false, false, false, false, false, false, false, false] rfl rfl (by kernel_rfl) (fun _ _ _ h => h) (Or.inl ⟨by rfl, ?_⟩) ?_ ?_
 rotate_left
 ·intro w'
  go_simp
  with_reducible rfl
 rotate_left
 ·simp only [Act.put, List.setIfInBounds_toArray, List.set_cons_zero, List.set_cons_succ, i64_w, i32_w]
  rfl
 refine pure_ (i := 2) (N := some 42) (v := ?_) (a' := ?_) #[true, true, true, false, false, false, false, false, false, false, false, false] rfl rfl (by kernel_rfl) (fun _ _ _ h => h) (Or.inl ⟨by rfl, ?_⟩) ?_ ?_
 rotate_left
 ·intro w'
  go_simp
  with_reducible rfl
 rotate_left
 ·simp only [Act.put, List.setIfInBounds_toArray, List.set_cons_zero, List.set_cons_succ, i64_w, i32_w]
  rfl
 refine pure_ (i := 5) (N := some 45) (v := ?_) (a' := ?_) #[true, true, true, false, false, true, false, false, false, false, false, false] rfl rfl (by kernel_rfl) (fun _ _ _ h => h) (Or.inl ⟨by rfl, ?_⟩) ?_ ?_
 rotate_left
 ·intro w'
  go_simp
  with_reducible rfl
 rotate_left
 ·simp only [Act.put, List.setIfInBounds_toArray, List.set_cons_zero, List.set_cons_succ, i64_w, i32_w]
  rfl
 refine pure_ (i := 6) (N := some 46) (v := ?_) (a' := ?_) #[true, true, true, false, false, true, true, false, false, false, false, false] rfl rfl (by kernel_rfl) (fun _ _ _ h => h) (Or.inl ⟨by rfl, ?_⟩) ?_ ?_
 rotate_left
 ·intro w'
  go_simp
  with_reducible rfl
 rotate_left
 ·simp only [Act.put, List.setIfInBounds_toArray, List.set_cons_zero, List.set_cons_succ, i64_w, i32_w]
  rfl
 refine pure_ (i := 7) (N := some 47) (v := ?_) (a' := ?_) #[true, true, true, false, false, true, true, true, false, false, false, false] rfl rfl (by kernel_rfl) (fun _ _ _ h => h) (Or.inl ⟨by rfl, ?_⟩) ?_ ?_
 rotate_left
 ·intro w'
  go_simp
  with_reducible rfl
 rotate_left
 ·simp only [Act.put, List.setIfInBounds_toArray, List.set_cons_zero, List.set_cons_succ, i64_w, i32_w]
  rfl
 refine take_ (i := 3) (N := some 43) (v := ?_) (a' := ?_) #[true, true, true, true, false, true, true, true, false, false, false, false] rfl rfl (by kernel_rfl) (fun _ _ _ h => h) (Or.inl ⟨by rfl, ?_⟩) hHeld ?_ ?_
 rotate_left
 ·intro w' s0
  go_simp
  with_reducible rfl
 rotate_left
 ·simp only [Act.put, List.setIfInBounds_toArray, List.set_cons_zero, List.set_cons_succ, i64_w, i32_w]
  rfl
 refine take_ (i := 8) (N := some 48) (v := ?_) (a' := ?_) #[true, true, true, true, false, true, true, true, true, false, false, false] rfl rfl (by kernel_rfl) (fun _ _ _ h => h) (Or.inl ⟨by rfl, ?_⟩) hHeld ?_ ?_
 rotate_left
 ·intro w' s0
  go_simp
  with_reducible rfl
 rotate_left
 ·simp only [Act.put, List.setIfInBounds_toArray, List.set_cons_zero, List.set_cons_succ, i64_w, i32_w]
  rfl
 refine one_ (i := 4) (N := some 44) #[true, true, true, true, true, true, true, true, true, false, false, false] rfl rfl (by kernel_rfl) (by decide) (fun K hK => ?_)
 refine goes_ Tryd.func33 (by kernel_rfl) rfl #[.pointer (some ⟨p.gd, 0, none⟩)] (by rfl) rfl rfl (by simp only [List.map_toArray, List.map_cons, List.map_nil]; rfl) ?_
 with_reducible refine (HH.out).mono ?_
 rintro e w6 ⟨rfl, rfl⟩
 refine ⟨_, rfl, ?_⟩
 refine hK.out _ _ (H.out.drew.cell 0) (fun hHeld => ?_)
 clear hK K
 refine norm_ (a' := ?_) ?_ ?_
 rotate_left
 ·show Act.put _ (some 44) _ = _
  simp only [Act.put, List.setIfInBounds_toArray, List.set_cons_zero, List.set_cons_succ, i64_w, i32_w]
  rfl
 refine one_ (i := 9) (N := some 49) #[true, true, true, true, true, true, true, true, true, true, false, false] rfl rfl (by kernel_rfl) (by decide) (fun K hK => ?_)
 refine goes_ Tryd.func52 (by kernel_rfl) rfl #[.pointer (some ⟨p.gd, 0, none⟩)] (by rfl) rfl rfl (by simp only [List.map_toArray, List.map_cons, List.map_nil]; rfl) ?_
 with_reducible refine (HR.out).mono ?_
 rintro e w6 ⟨rfl, rfl⟩
 refine ⟨_, rfl, ?_⟩
 refine hK.out _ _ (H.out.drew.cell 0) (fun hHeld => ?_)
 clear hK K
 refine norm_ (a' := ?_) ?_ ?_
 rotate_left
 ·show Act.put _ (some 49) _ = _
  simp only [Act.put, List.setIfInBounds_toArray, List.set_cons_zero, List.set_cons_succ, i64_w, i32_w]
  rfl
 refine pure_ (i := 10) (N := some 6) (v := ?_) (a' := ?_) #[true, true, true, true, true, true, true, true, true, true, true, false] rfl rfl (by kernel_rfl) (fun _ _ _ h => h) (Or.inl ⟨by rfl, ?_⟩) ?_ ?_
 rotate_left
 ·intro w'
  go_simp
  with_reducible rfl
 rotate_left
 ·simp only [Act.put, List.setIfInBounds_toArray, List.set_cons_zero, List.set_cons_succ, i64_w, i32_w]
  rfl
 refine pure_ (i := 11) (N := some 7) (v := ?_) (a' := ?_) #[true, true, true, true, true, true, true, true, true, true, true, true] rfl rfl (by kernel_rfl) (fun _ _ _ h => h) (Or.inl ⟨by rfl, ?_⟩) ?_ ?_
 rotate_left
 ·intro w'
  go_simp
  with_reducible rfl
 rotate_left
 ·simp only [Act.put, List.setIfInBounds_toArray, List.set_cons_zero, List.set_cons_succ, i64_w, i32_w]
  rfl
 refine done_ (by kernel_rfl) ?_
 clear HH HR c7
 generalize W.drew = w1 at *
 have k11 : w1.cell? ⟨p.g, 11, none⟩ = some (.int .u8 a.wire) := H1.out.cell 11
 go_wp2
 first | go_ret2 | ((try simp only [Exit.inBlock, Exit.then]); refine bodyPost_ret (results_tmp2 rfl _ _ _) rfl ?_)
 exact ⟨rfl, H1.out, T1.out⟩
set_option maxHeartbeats 4000000 in
theorem get_drv (base : Nat) (W : World) (p : P) (a : A) (d : Drv.D) (u : Wave.V) (h : Is base W p a d u) (ho : U8 a.opn) (h1 : bit a.opn 1 = true) :
  Calls Tryd.prog 14 #[.pointer (some ⟨p.g, 0, none⟩), .int .u16 16434] W fun e W' => e = .returned (.tuple #[.int .u8 (drvI (Drive.readyB d) (Drive.hasB d)), .bool true]) ∧ Is base W' p a d u ∧ Turn base W W' (Foot p) := by
 have H := Aside0.mk h
 have c7 : W.cell? ⟨p.g, 7, none⟩ = some (.int .u8 a.opn) := h.cell 7
 have a1 := and_bit a.opn ho 1 (by decide)
 rw [h1] at a1
 have HH := Aside0.mk (Drive.has_calls base p.gd p.v d W.drew h.drew.dr)
 have HR := Aside0.mk (Drive.ready_calls base p.gd p.v d W.drew h.drew.dr)
 generalize Drive.hasB d = s at *
 generalize Drive.readyB d = r at *
 have H1 := Aside0.mk h.drew
 have HBS := Aside0.mk (show base ≤ W.heap.size by have := h.bs; have := h.at_.lt; omega)
 have T1 := Aside0.mk (Drive.Turn.refl base W (Foot p)).drew
 skip
 clear h ho h1 
 go_enter Tryd.func14, Tryd.ntmps14
 go_wp2
 refine start_ (n := 12) (S := fun w' => w'.cell? ⟨p.g, 0, none⟩ = some (.pointer (some ⟨p.gd, 0, none⟩))) (ds := []) #[false, false, false, false, false, false, false, false, false, false, false, false] (by kernel_rfl) rfl rfl (H.out.drew.cell 0) (fun hHeld => ?_)
 refine pure_ (i := 0) (N := some 40) (v := ?_) (a' := ?_) #[true, false, false, false, false, false, false, false, false, false, false, false] rfl rfl (by kernel_rfl) (fun _ _ _ h => h) (Or.inl ⟨by rfl, ?_⟩) ?_ ?_
 rotate_left
 ·intro w'
  go_simp
  with_reducible rfl
 rotate_left
 ·simp only [Act.put, List.setIfInBounds_toArray, List.set_cons_zero, List.set_cons_succ, i64_w, i32_w]
  rfl
 refine pure_ (i := 1) (N := some 41) (v := ?_) (a' := ?_) #[true, true, false, false, false, false, false, false, false, false, false, false] rfl rfl (by kernel_rfl) (fun _ _ _ h => h) (Or.inl ⟨by rfl, ?_⟩) ?_ ?_
 rotate_left
 ·intro w'
  go_simp
  with_reducible rfl
 rotate_left
 ·simp only [Act.put, List.setIfInBounds_toArray, List.set_cons_zero, List.set_cons_succ, i64_w, i32_w]
  rfl
 refine pure_ (i := 2) (N := some 42) (v := ?_) (a' := ?_) #[true, true, true, false, false, false, false, false, false, false, false, false] rfl rfl (by kernel_rfl) (fun _ _ _ h => h) (Or.inl ⟨by rfl, ?_⟩) ?_ ?_
 rotate_left
 ·intro w'
  go_simp
  with_reducible rfl
 rotate_left
 ·simp only [Act.put, List.setIfInBounds_toArray, List.set_cons_zero, List.set_cons_succ, i64_w, i32_w]
  rfl
 refine pure_ (i := 5) (N := some 45) (v := ?_) (a' := ?_) #[true, true, true, false, false, true, false, false, false, false, false, false] rfl rfl (by kernel_rfl) (fun _ _ _ h => h) (Or.inl ⟨by rfl, ?_⟩) ?_ ?_
 rotate_left
 ·intro w'
  go_simp
  with_reducible rfl
 rotate_left
 ·simp only [Act.put, List.setIfInBounds_toArray, List.set_cons_zero, List.set_cons_succ, i64_w, i32_w]
  rfl
 refine pure_ (i := 6) (N := some 46) (v := ?_) (a' := ?_) #[true, true, true, false, false, true, true, false, false, false, false, false] rfl rfl (by kernel_rfl) (fun _ _ _ h => h) (Or.inl ⟨by rfl, ?_⟩) ?_ ?_
 rotate_left
 ·intro w'
  go_simp
  with_reducible rfl
 rotate_left
 ·simp only [Act.put, List.setIfInBounds_toArray, List.set_cons_zero, List.set_cons_succ, i64_w, i32_w]
  rfl
 refine pure_ (i := 7) (N := some 47) (v := ?_) (a' := ?_) #[true, true, true, false, false, true, true, true, false, false, false, false] rfl rfl (by kernel_rfl) (fun _ _ _ h => h) (Or.inl ⟨by rfl, ?_⟩) ?_ ?_
 rotate_left
 ·intro w'
  go_simp
  with_reducible rfl
 rotate_left
 ·simp only [Act.put, List.setIfInBounds_toArray, List.set_cons_zero, List.set_cons_succ, i64_w, i32_w]
  rfl
 refine take_ (i := 3) (N := some 43) (v := ?_) (a' := ?_) #[true, true, true, true, false, true, true, true, false, false, false, false] rfl rfl (by kernel_rfl) (fun _ _ _ h => h) (Or.inl ⟨by rfl, ?_⟩) hHeld ?_ ?_
 rotate_left
 ·intro w' s0
  go_simp
  with_reducible rfl
 rotate_left
 ·simp only [Act.put, List.setIfInBounds_toArray, List.set_cons_zero, List.set_cons_succ, i64_w, i32_w]
  rfl
 refine take_ (i := 8) (N := some 48) (v := ?_) (a' := ?_) #[true, true, true, true, false, true, true, true, true, false, false, false] rfl rfl (by kernel_rfl) (fun _ _ _ h => h) (Or.inl ⟨by rfl, ?_⟩) hHeld ?_ ?_
 rotate_left
 ·intro w' s0
  go_simp
  with_reducible rfl
 rotate_left
 ·simp only [Act.put, List.setIfInBounds_toArray, List.set_cons_zero, List.set_cons_succ, i64_w, i32_w]
  rfl
 refine one_ (i := 4) (N := some 44) #[true, true, true, true, true, true, true, true, true, false, false, false] rfl rfl (by kernel_rfl) (by decide) (fun K hK => ?_)
 refine goes_ Tryd.func33 (by kernel_rfl) rfl #[.pointer (some ⟨p.gd, 0, none⟩)] (by rfl) rfl rfl (by simp only [List.map_toArray, List.map_cons, List.map_nil]; rfl) ?_
 with_reducible refine (HH.out).mono ?_
 rintro e w6 ⟨rfl, rfl⟩
 refine ⟨_, rfl, ?_⟩
 refine hK.out _ _ (H.out.drew.cell 0) (fun hHeld => ?_)
 clear hK K
 refine norm_ (a' := ?_) ?_ ?_
 rotate_left
 ·show Act.put _ (some 44) _ = _
  simp only [Act.put, List.setIfInBounds_toArray, List.set_cons_zero, List.set_cons_succ, i64_w, i32_w]
  rfl
 refine one_ (i := 9) (N := some 49) #[true, true, true, true, true, true, true, true, true, true, false, false] rfl rfl (by kernel_rfl) (by decide) (fun K hK => ?_)
 refine goes_ Tryd.func52 (by kernel_rfl) rfl #[.pointer (some ⟨p.gd, 0, none⟩)] (by rfl) rfl rfl (by simp only [List.map_toArray, List.map_cons, List.map_nil]; rfl) ?_
 with_reducible refine (HR.out).mono ?_
 rintro e w6 ⟨rfl, rfl⟩
 refine ⟨_, rfl, ?_⟩
 refine hK.out _ _ (H.out.drew.cell 0) (fun hHeld => ?_)
 clear hK K
 refine norm_ (a' := ?_) ?_ ?_
 rotate_left
 ·show Act.put _ (some 49) _ = _
  simp only [Act.put, List.setIfInBounds_toArray, List.set_cons_zero, List.set_cons_succ, i64_w, i32_w]
  rfl
 refine pure_ (i := 10) (N := some 6) (v := ?_) (a' := ?_) #[true, true, true, true, true, true, true, true, true, true, true, false] rfl rfl (by kernel_rfl) (fun _ _ _ h => h) (Or.inl ⟨by rfl, ?_⟩) ?_ ?_
 rotate_left
 ·intro w'
  go_simp
  with_reducible rfl
 rotate_left
 ·simp only [Act.put, List.setIfInBounds_toArray, List.set_cons_zero, List.set_cons_succ, i64_w, i32_w]
  rfl
 refine pure_ (i := 11) (N := some 7) (v := ?_) (a' := ?_) #[true, true, true, true, true, true, true, true, true, true, true, true] rfl rfl (by kernel_rfl) (fun _ _ _ h => h) (Or.inl ⟨by rfl, ?_⟩) ?_ ?_
 rotate_left
 ·intro w'
  go_simp
  with_reducible rfl
 rotate_left
 ·simp only [Act.put, List.setIfInBounds_toArray, List.set_cons_zero, List.set_cons_succ, i64_w, i32_w]
  rfl
 refine done_ (by kernel_rfl) ?_
 clear HH HR c7
 generalize W.drew = w1 at *
 have HBI := Aside0.mk (fun (W1 : World) => show Calls Tryd.prog 53 #[.slice (some ⟨W1.heap.size, 0, none⟩) 7 7] (W1.alloc (.cells #[.bool (!s), .bool (!r), .bool (!s), .bool false, .bool false, .bool false, .bool true] 4)) fun e w' => e = .returned (.int .u8 (drvI r s)) ∧ Drawn0 (W1.alloc (.cells #[.bool (!s), .bool (!r), .bool (!s), .bool false, .bool false, .bool false, .bool true] 4)) w' from adapter_bits.calls 20 _ 7 [!s, !r, !s, false, false, false, true] _ _ (C_bools7 W1 (!s) (!r) (!s) false false false true) (Nat.le_refl _) (bits_drv r s))
 have HA2 := Aside0.mk (H1.out.below (below_alloc (Below.refl _ _) (.cells #[.bool (!s), .bool (!r), .bool (!s), .bool false, .bool false, .bool false, .bool true] 4)))
 have T2 := Aside0.mk (T1.out.trans (Drive.Turn.of_below (S := Foot p) (below_alloc (Below.refl _ _) (.cells #[.bool (!s), .bool (!r), .bool (!s), .bool false, .bool false, .bool false, .bool true] 4)) (Nat.le_trans HBS.out T1.out.below.size)))
 go_wp2_with fail
 refine (HBI.out w1).mono ?_
 rintro e w7 ⟨rfl, ⟨n7, rfl⟩⟩
 go_wp2
 first | go_ret2 | ((try simp only [Exit.inBlock, Exit.then]); refine bodyPost_ret (results_tmp2 rfl _ _ _) rfl ?_)
 exact ⟨rfl, HA2.out.drewN n7, T2.out.drewN n7⟩
set_option maxHeartbeats 4000000 in
theorem get_other (base : Nat) (W : World) (p : P) (a : A) (d : Drv.D) (u : Wave.V) (h : Is base W p a d u) (ho : U8 a.opn) (h1 : bit a.opn 1 = true) (x : Int) (hx : x < 16448 ∨ 16531 ≤ x) (hn : x ≠ 16432 ∧ x ≠ 16433 ∧ x ≠ 16434 ∧ x ≠ 16435) :
  Calls Tryd.prog 14 #[.pointer (some ⟨p.g, 0, none⟩), .int .u16 x] W fun e W' => e = .returned (.tuple #[.int .u8 0, .bool false]) ∧ Is base W' p a d u ∧ Turn base W W' (Foot p) := by
 have t0 : (x == 16432) = false := by simpa using hn.1
 have t1 : (x == 16433) = false := by simpa using hn.2.1
 have t2 : (x == 16434) = false := by simpa using hn.2.2.1
 have t3 : (x == 16435) = false := by simpa using hn.2.2.2
 by_cases h2 : 16448 ≤ x
 ·have k1 : decide (16448 ≤ x) = true := decide_eq_true h2
  have k2 : decide (x ≤ 16530) = false := decide_eq_false (by omega)
  have H := Aside0.mk h
  have c7 : W.cell? ⟨p.g, 7, none⟩ = some (.int .u8 a.opn) := h.cell 7
  have a1 := and_bit a.opn ho 1 (by decide)
  rw [h1] at a1
  have HH := Aside0.mk (Drive.has_calls base p.gd p.v d W.drew h.drew.dr)
  have HR := Aside0.mk (Drive.ready_calls base p.gd p.v d W.drew h.drew.dr)
  generalize Drive.hasB d = s at *
  generalize Drive.readyB d = r at *
  have H1 := Aside0.mk h.drew
  have HBS := Aside0.mk (show base ≤ W.heap.size by have := h.bs; have := h.at_.lt; omega)
  have T1 := Aside0.mk (Drive.Turn.refl base W (Foot p)).drew
  skip
  clear h ho h1 hx hn h2
  go_enter Tryd.func14, Tryd.ntmps14
  go_wp2
  refine start_ (n := 12) (S := fun w' => w'.cell? ⟨p.g, 0, none⟩ = some (.pointer (some ⟨p.gd, 0, none⟩))) (ds := []) #[false, false, false, false, false, false, false, false, false, false, false, false] (by kernel_rfl) rfl rfl (H.out.drew.cell 0) (fun hHeld => ?_)
  refine pure_ (i := 0) (N := some 40) (v := ?_) (a' := ?_) #[true, false, false, false, false, false, false, false, false, false, false, false] rfl rfl (by kernel_rfl) (fun _ _ _ h => h) (Or.inl ⟨by rfl, ?_⟩) ?_ ?_
  rotate_left
  ·intro w'
   go_simp
   with_reducible rfl
  rotate_left
  ·simp only [Act.put, List.setIfInBounds_toArray, List.set_cons_zero, List.set_cons_succ, i64_w, i32_w]
   rfl
  refine pure_ (i := 1) (N := some 41) (v := ?_) (a' := ?_) #[true, true, false, false, false, false, false, false, false, false, false, false] rfl rfl (by kernel_rfl) (fun _ _ _ h => h) (Or.inl ⟨by rfl, ?_⟩) ?_ ?_
  rotate_left
  ·intro w'
   go_simp
   with_reducible rfl
  rotate_left
  ·simp only [Act.put, List.setIfInBounds_toArray, List.set_cons_zero, List.set_cons_succ, i64_w, i32_w]
   rfl
  refine pure_ (i := 2) (N := some 42) (v := ?_) (a' := ?_) #[true, true, true, false, false, false, false, false, false, false, false, false] rfl rfl (by kernel_rfl) (fun _ _ _ h => h) (Or.inl ⟨by rfl, ?_⟩) ?_ ?_
  rotate_left
  ·intro w'
   go_simp
   with_reducible rfl
  rotate_left
  ·simp only [Act.put, List.setIfInBounds_toArray, List.set_cons_zero, List.set_cons_succ, i64_w, i32_w]
   rfl
  refine pure_ (i := 5) (N := some 45) (v := ?_) (a' := ?_) #[true, true, true, false, false, true, false, false, false, false, false, false] rfl rfl (by kernel_rfl) (fun _ _ _ h => h) (Or.inl ⟨by rfl, ?_⟩) ?_ ?_
  rotate_left
  ·intro w'
   go_simp
   with_reducible rfl
  rotate_left
  ·simp only [Act.put, List.setIfInBounds_toArray, List.set_cons_zero, List.set_cons_succ, i64_w, i32_w]
   rfl
  refine pure_ (i := 6) (N := some 46) (v := ?_) (a' := ?_) #[true, true, true, false, false, true, true, false, false, false, false, false] rfl rfl (by kernel_rfl) (fun _ _ _ h => h) (Or.inl ⟨by rfl, ?_⟩) ?_ ?_
  rotate_left
  ·intro w'
   go_simp
   with_reducible rfl
  rotate_left
  ·simp only [Act.put, List.setIfInBounds_toArray, List.set_cons_zero, List.set_cons_succ, i64_w, i32_w]
   rfl
  refine pure_ (i := 7) (N := some 47) (v := ?_) (a' := ?_) #[true, true, true, false, false, true, true, true, false, false, false, false] rfl rfl (by kernel_rfl) (fun _ _ _ h => h) (Or.inl ⟨by rfl, ?_⟩) ?_ ?_
  rotate_left
  ·intro w'
   go_simp
   with_reducible rfl
  rotate_left
  ·simp only [Act.put, List.setIfInBounds_toArray, List.set_cons_zero, List.set_cons_succ, i64_w, i32_w]
   rfl
  refine take_ (i := 3) (N := some 43) (v := ?_) (a' := ?_) #[true, true, true, true, false, true, true, true, false, false, false, false] rfl rfl (by kernel_rfl) (fun _ _ _ h => h) (Or.inl ⟨by rfl, ?_⟩) hHeld ?_ ?_
  rotate_left
  ·intro w' s0
   go_simp
   with_reducible rfl
  rotate_left
  ·simp only [Act.put, List.setIfInBounds_toArray, List.set_cons_zero, List.set_cons_succ, i64_w, i32_w]
   rfl
  refine take_ (i := 8) (N := some 48) (v := ?_) (a' := ?_) #[true, true, true, true, false, true, true, true, true, false, false, false] rfl rfl (by kernel_rfl) (fun _ _ _ h => h) (Or.inl ⟨by rfl, ?_⟩) hHeld ?_ ?_
  rotate_left
  ·intro w' s0
   go_simp
   with_reducible rfl
  rotate_left
  ·simp only [Act.put, List.setIfInBounds_toArray, List.set_cons_zero, List.set_cons_succ, i64_w, i32_w]
   rfl
  refine one_ (i := 4) (N := some 44) #[true, true, true, true, true, true, true, true, true, false, false, false] rfl rfl (by kernel_rfl) (by decide) (fun K hK => ?_)
  refine goes_ Tryd.func33 (by kernel_rfl) rfl #[.pointer (some ⟨p.gd, 0, none⟩)] (by rfl) rfl rfl (by simp only [List.map_toArray, List.map_cons, List.map_nil]; rfl) ?_
  with_reducible refine (HH.out).mono ?_
  rintro e w6 ⟨rfl, rfl⟩
  refine ⟨_, rfl, ?_⟩
  refine hK.out _ _ (H.out.drew.cell 0) (fun hHeld => ?_)
  clear hK K
  refine norm_ (a' := ?_) ?_ ?_
  rotate_left
  ·show Act.put _ (some 44) _ = _
   simp only [Act.put, List.setIfInBounds_toArray, List.set_cons_zero, List.set_cons_succ, i64_w, i32_w]
   rfl
  refine one_ (i := 9) (N := some 49) #[true, true, true, true, true, true, true, true, true, true, false, false] rfl rfl (by kernel_rfl) (by decide) (fun K hK => ?_)
  refine goes_ Tryd.func52 (by kernel_rfl) rfl #[.pointer (some ⟨p.gd, 0, none⟩)] (by rfl) rfl rfl (by simp only [List.map_toArray, List.map_cons, List.map_nil]; rfl) ?_
  with_reducible refine (HR.out).mono ?_
  rintro e w6 ⟨rfl, rfl⟩
  refine ⟨_, rfl, ?_⟩
  refine hK.out _ _ (H.out.drew.cell 0) (fun hHeld => ?_)
  clear hK K
  refine norm_ (a' := ?_) ?_ ?_
  rotate_left
  ·show Act.put _ (some 49) _ = _
   simp only [Act.put, List.setIfInBounds_toArray, List.set_cons_zero, List.set_cons_succ, i64_w, i32_w]
   rfl
  refine pure_ (i := 10) (N := some 6) (v := ?_) (a' := ?_) #[true, true, true, true, true, true, true, true, true, true, true, false] rfl rfl (by kernel_rfl) (fun _ _ _ h => h) (Or.inl ⟨by rfl, ?_⟩) ?_ ?_
  rotate_left
  ·intro w'
   go_simp
   with_reducible rfl
  rotate_left
  ·simp only [Act.put, List.setIfInBounds_toArray, List.set_cons_zero, List.set_cons_succ, i64_w, i32_w]
   rfl
  refine pure_ (i := 11) (N := some 7) (v := ?_) (a' := ?_) #[true, true, true, true, true, true, true, true, true, true, true, true] rfl rfl (by kernel_rfl) (fun _ _ _ h => h) (Or.inl ⟨by rfl, ?_⟩) ?_ ?_
  rotate_left
  ·intro w'
   go_simp
   with_reducible rfl
  rotate_left
  ·simp only [Act.put, List.setIfInBounds_toArray, List.set_cons_zero, List.set_cons_succ, i64_w, i32_w]
   rfl
  refine done_ (by kernel_rfl) ?_
  clear HH HR c7
  generalize W.drew = w1 at *
  go_wp2
  first | go_ret2 | ((try simp only [Exit.inBlock, Exit.then]); refine bodyPost_ret (results_tmp2 rfl _ _ _) rfl ?_)
  exact ⟨rfl, H1.out, T1.out⟩
 ·have k1 : decide (16448 ≤ x) = false := decide_eq_false h2
  have H := Aside0.mk h
  have c7 : W.cell? ⟨p.g, 7, none⟩ = some (.int .u8 a.opn) := h.cell 7
  have a1 := and_bit a.opn ho 1 (by decide)
  rw [h1] at a1
  have HH := Aside0.mk (Drive.has_calls base p.gd p.v d W.drew h.drew.dr)
  have HR := Aside0.mk (Drive.ready_calls base p.gd p.v d W.drew h.drew.dr)
  generalize Drive.hasB d = s at *
  generalize Drive.readyB d = r at *
  have H1 := Aside0.mk h.drew
  have HBS := Aside0.mk (show base ≤ W.heap.size by have := h.bs; have := h.at_.lt; omega)
  have T1 := Aside0.mk (Drive.Turn.refl base W (Foot p)).drew
  skip
  clear h ho h1 hx hn h2
  go_enter Tryd.func14, Tryd.ntmps14
  go_wp2
  refine start_ (n := 12) (S := fun w' => w'.cell? ⟨p.g, 0, none⟩ = some (.pointer (some ⟨p.gd, 0, none⟩))) (ds := []) #[false, false, false, false, false, false, false, false, false, false, false, false] (by kernel_rfl) rfl rfl (H.out.drew.cell 0) (fun hHeld => ?_)
  refine pure_ (i := 0) (N := some 40) (v := ?_) (a' := ?_) #[true, false, false, false, false, false, false, false, false, false, false, false] rfl rfl (by kernel_rfl) (fun _ _ _ h => h) (Or.inl ⟨by rfl, ?_⟩) ?_ ?_
  rotate_left
  ·intro w'
   go_simp
   with_reducible rfl
  rotate_left
  ·simp only [Act.put, List.setIfInBounds_toArray, List.set_cons_zero, List.set_cons_succ, i64_w, i32_w]
   rfl
  refine pure_ (i := 1) (N := some 41) (v := ?_) (a' := ?_) #[true, true, false, false, false, false, false, false, false, false, false, false] rfl rfl (by kernel_rfl) (fun _ _ _ h => h) (Or.inl ⟨by rfl, ?_⟩) ?_ ?_
  rotate_left
  ·intro w'
   go_simp
   with_reducible rfl
  rotate_left
  ·simp only [Act.put, List.setIfInBounds_toArray, List.set_cons_zero, List.set_cons_succ, i64_w, i32_w]
   rfl
  refine pure_ (i := 2) (N := some 42) (v := ?_) (a' := ?_) #[true, true, true, false, false, false, false, false, false, false, false, false] rfl rfl (by kernel_rfl) (fun _ _ _ h => h) (Or.inl ⟨by rfl, ?_⟩) ?_ ?_
  rotate_left
  ·intro w'
   go_simp
   with_reducible rfl
  rotate_left
  ·simp only [Act.put, List.setIfInBounds_toArray, List.set_cons_zero, List.set_cons_succ, i64_w, i32_w]
   rfl
  refine pure_ (i := 5) (N := some 45) (v := ?_) (a' := ?_) #[true, true, true, false, false, true, false, false, false, false, false, false] rfl rfl (by kernel_rfl) (fun _ _ _ h => h) (Or.inl ⟨by rfl, ?_⟩) ?_ ?_
  rotate_left
  ·intro w'
   go_simp
   with_reducible rfl
  rotate_left
  ·simp only [Act.put, List.setIfInBounds_toArray, List.set_cons_zero, List.set_cons_succ, i64_w, i32_w]
   rfl
  refine pure_ (i := 6) (N := some 46) (v := ?_) (a' := ?_) #[true, true, true, false, false, true, true, false, false, false, false, false] rfl rfl (by kernel_rfl) (fun _ _ _ h => h) (Or.inl ⟨by rfl, ?_⟩) ?_ ?_
  rotate_left
  ·intro w'
   go_simp
   with_reducible rfl
  rotate_left
  ·simp only [Act.put, List.setIfInBounds_toArray, List.set_cons_zero, List.set_cons_succ, i64_w, i32_w]
   rfl
  refine pure_ (i := 7) (N := some 47) (v := ?_) (a' := ?_) #[true, true, true, false, false, true, true, true, false, false, false, false] rfl rfl (by kernel_rfl) (fun _ _ _ h => h) (Or.inl ⟨by rfl, ?_⟩) ?_ ?_
  rotate_left
  ·intro w'
   go_simp
   with_reducible rfl
  rotate_left
  ·simp only [Act.put, List.setIfInBounds_toArray, List.set_cons_zero, List.set_cons_succ, i64_w, i32_w]
   rfl
  refine take_ (i := 3) (N := some 43) (v := ?_) (a' := ?_) #[true, true, true, true, false, true, true, true, false, false, false, false] rfl rfl (by kernel_rfl) (fun _ _ _ h => h) (Or.inl ⟨by rfl, ?_⟩) hHeld ?_ ?_
  rotate_left
  ·intro w' s0
   go_simp
   with_reducible rfl
  rotate_left
  ·simp only [Act.put, List.setIfInBounds_toArray, List.set_cons_zero, List.set_cons_succ, i64_w, i32_w]
   rfl
  refine take_ (i := 8) (N := some 48) (v := ?_) (a' := ?_) #[true, true, true, true, false, true, true, true, true, false, false, false] rfl rfl (by kernel_rfl) (fun _ _ _ h => h) (Or.inl ⟨by rfl, ?_⟩) hHeld ?_ ?_
  rotate_left
  ·intro w' s0
   go_simp
   with_reducible rfl
  rotate_left
  ·simp only [Act.put, List.setIfInBounds_toArray, List.set_cons_zero, List.set_cons_succ, i64_w, i32_w]
   rfl
  refine one_ (i := 4) (N := some 44) #[true, true, true, true, true, true, true, true, true, false, false, false] rfl rfl (by kernel_rfl) (by decide) (fun K hK => ?_)
  refine goes_ Tryd.func33 (by kernel_rfl) rfl #[.pointer (some ⟨p.gd, 0, none⟩)] (by rfl) rfl rfl (by simp only [List.map_toArray, List.map_cons, List.map_nil]; rfl) ?_
  with_reducible refine (HH.out).mono ?_
  rintro e w6 ⟨rfl, rfl⟩
  refine ⟨_, rfl, ?_⟩
  refine hK.out _ _ (H.out.drew.cell 0) (fun hHeld => ?_)
  clear hK K
  refine norm_ (a' := ?_) ?_ ?_
  rotate_left
  ·show Act.put _ (some 44) _ = _
   simp only [Act.put, List.setIfInBounds_toArray, List.set_cons_zero, List.set_cons_succ, i64_w, i32_w]
   rfl
  refine one_ (i := 9) (N := some 49) #[true, true, true, true, true, true, true, true, true, true, false, false] rfl rfl (by kernel_rfl) (by decide) (fun K hK => ?_)
  refine goes_ Tryd.func52 (by kernel_rfl) rfl #[.pointer (some ⟨p.gd, 0, none⟩)] (by rfl) rfl rfl (by simp only [List.map_toArray, List.map_cons, List.map_nil]; rfl) ?_
  with_reducible refine (HR.out).mono ?_
  rintro e w6 ⟨rfl, rfl⟩
  refine ⟨_, rfl, ?_⟩
  refine hK.out _ _ (H.out.drew.cell 0) (fun hHeld => ?_)
  clear hK K
  refine norm_ (a' := ?_) ?_ ?_
  rotate_left
  ·show Act.put _ (some 49) _ = _
   simp only [Act.put, List.setIfInBounds_toArray, List.set_cons_zero, List.set_cons_succ, i64_w, i32_w]
   rfl
  refine pure_ (i := 10) (N := some 6) (v := ?_) (a' := ?_) #[true, true, true, true, true, true, true, true, true, true, true, false] rfl rfl (by kernel_rfl) (fun _ _ _ h => h) (Or.inl ⟨by rfl, ?_⟩) ?_ ?_
  rotate_left
  ·intro w'
   go_simp
   with_reducible rfl
  rotate_left
  ·simp only [Act.put, List.setIfInBounds_toArray, List.set_cons_zero, List.set_cons_succ, i64_w, i32_w]
   rfl
  refine pure_ (i := 11) (N := some 7) (v := ?_) (a' := ?_) #[true, true, true, true, true, true, true, true, true, true, true, true] rfl rfl (by kernel_rfl) (fun _ _ _ h => h) (Or.inl ⟨by rfl, ?_⟩) ?_ ?_
  rotate_left
  ·intro w'
   go_simp
   with_reducible rfl
  rotate_left
  ·simp only [Act.put, List.setIfInBounds_toArray, List.set_cons_zero, List.set_cons_succ, i64_w, i32_w]
   rfl
  refine done_ (by kernel_rfl) ?_
  clear HH HR c7
  generalize W.drew = w1 at *
  go_wp2
  first | go_ret2 | ((try simp only [Exit.inBlock, Exit.then]); refine bodyPost_ret (results_tmp2 rfl _ _ _) rfl ?_)
  exact ⟨rfl, H1.out, T1.out⟩
/-- shut, anywhere but among the wave's -/
theorem get_shut2 (base : Nat) (W : World) (p : P) (a : A) (d : Drv.D) (u : Wave.V) (h : Is base W p a d u) (ho : U8 a.opn) (h1 : bit a.opn 1 = false) (x : Int) (hx : 16531 ≤ x) :
  Calls Tryd.prog 14 #[.pointer (some ⟨p.g, 0, none⟩), .int .u16 x] W fun e W' => e = .returned (.tuple #[.int .u8 0, .bool false]) ∧ W = W' := by
 have c7 : W.cell? ⟨p.g, 7, none⟩ = some (.int .u8 a.opn) := h.cell 7
 have a1 := and_bit a.opn ho 1 (by decide)
 rw [h1] at a1
 have d1 : decide (16448 ≤ x) = true := decide_eq_true (by omega)
 have d2 : decide (x ≤ 16530) = false := decide_eq_false (by omega)
 clear h ho h1 hx
 go_enter Tryd.func14, Tryd.ntmps14
 go_wp2
 refine bodyPost_ret (v := .tuple #[.int .u8 0, .bool false]) (by simp [results, Tryd.results14, go_sem]) rfl ⟨rfl, rfl⟩
theorem get_wave (base : Nat) (W : World) (p : P) (a : A) (d : Drv.D) (u : Wave.V) (h : Is base W p a d u) (ho : U8 a.opn) (hu : Wave.Wf u) (x : Int) (hx : 16448 ≤ x ∧ x ≤ 16530) :
  Calls Tryd.prog 14 #[.pointer (some ⟨p.g, 0, none⟩), .int .u16 x] W fun e W' => e = .returned (.tuple #[.int .u8 (if bit a.opn 2 = true then (Wave.getV u x).1 else 0), .bool (if bit a.opn 2 = true then (Wave.getV u x).2 else false)]) ∧ W = W' := by
 have c7 : W.cell? ⟨p.g, 7, none⟩ = some (.int .u8 a.opn) := h.cell 7
 have c1 : W.cell? ⟨p.g, 1, none⟩ = some (.pointer (some ⟨p.gw, 0, none⟩)) := h.cell 1
 have a2 := and_bit a.opn ho 2 (by decide)
 have d1 : decide (16448 ≤ x) = true := decide_eq_true hx.1
 have d2 : decide (x ≤ 16530) = true := decide_eq_true hx.2
 have HG := Aside0.mk (Wave.get_calls base p.gw u W h.wv hu x (by omega) (by omega))
 generalize (Wave.getV u x).1 = y at *
 generalize (Wave.getV u x).2 = z at *
 cases h2 : bit a.opn 2
 all_goals
  rw [h2] at a2
  clear h ho hx hu h2
  go_enter Tryd.func14, Tryd.ntmps14
  go_wp2_with (go_at_call 51; refine HG.out.mono ?_; rintro e w2 ⟨rfl, rfl⟩)
 ·refine bodyPost_ret (v := .tuple #[.int .u8 0, .bool false]) (by simp [results, Tryd.results14, go_sem]) rfl ⟨by simp, rfl⟩
 ·first | go_ret2 | ((try simp only [Exit.inBlock, Exit.then]); refine bodyPost_ret (results_tmp2 rfl _ _ _) rfl ?_)
  exact ⟨by first | rfl | simp, rfl⟩
theorem upright_calls (base : Nat) (W : World) (p : P) (a : A) (d : Drv.D) (u : Wave.V) (h : Is base W p a d u) (hc : U8 a.ctl) :
  Calls Tryd.prog 18 #[.pointer (some ⟨p.g, 0, none⟩)] W fun e W' => e = .returned (.bool (!bit a.ctl 8)) ∧ W = W' := by
 have c8 : W.cell? ⟨p.g, 8, none⟩ = some (.int .u8 a.ctl) := h.cell 8
 have a8 := and_bit a.ctl hc 8 (by decide)
 cases h2 : bit a.ctl 8
 all_goals
  rw [h2] at a8
  clear h hc h2
  go_enter Tryd.func18, Tryd.ntmps18
  go_wp2
  go_ret
  exact ⟨by first | rfl | simp, rfl⟩
end Go.Proofs.YtaiaapjlpbhlbaaDoor.Ada
