/-
 AdapterTimes: the timer. By the prover of this repo.
 A BYTE THAT PASSES: read, next, and the adapter's cycle whole. By the prover of this repo.
 A NIL ADAPTER; the drive's handle; a copy. By the prover of this repo.
 A CYCLE of an adapter whose drive runs; till a byte passes. By the prover of this repo.
 A BYTE PASSES, EXACTLY: the adapter under a running drive, from one byte to the next. By the prover of this repo.
 A BYTE THAT ASKS: the law's pull, by the registers alone. By the prover of this repo.
 A BLOCK IS READ, by the registers alone: the law's read. By the prover of this repo.
 AdapterReads: a disk is read by its registers, block by block. By the prover of this repo.
 BYTES ARE WRITTEN by the registers: what each kind of pass does. By the prover of this repo.
 AdapterWrites: what is written by the registers is a block on the side, which is read again. By the prover of this repo.
-/
import Derived.Test.YtaiaapjlpbhlbaaDoorZAdZa
import Derived.Test.YtaiaapjlpbhlbaaDoorZAdStep
import Derived.Test.YtaiaapjlpbhlbaaDoorZDrvZ
import Derived.Laws.Rows
import Derived.Laws.Tables
import Derived.Deep.WholeRow
import Derived.Test.YtaiaapjlpbhlbaaDoorZPureAdapterReads
namespace Go.Proofs.YtaiaapjlpbhlbaaDoor.Ada
open Go.RowKit Go.Proofs.YtaiaapjlpbhlbaaDoorW.PrintWords Go.Proofs.YtaiaapjlpbhlbaaDoorW.PrintLast Go.Proofs.YtaiaapjlpbhlbaaDoorW.PrintMore
set_option linter.unusedVariables false
set_option linter.unusedSimpArgs false
set_option maxRecDepth 20000
theorem clock0 (base : Nat) (W : World) (p : P) (a : A) (u : Wave.V) (h : Is base W p a d0 u) (hc : 0 ≤ a.count ∧ a.count < 65536) (hu : Wave.Okv u) (hts : Wave.TS W) (hgb : 1 < base) :
  Calls Tryd.prog 12 #[.pointer (some ⟨p.g, 0, none⟩)] W fun e W' => e = .returned (.tuple #[]) ∧ Is base W' p (tick a) d0 (Wave.clockV u) ∧ Turn base W W' (Foot p) := by
 have h1 := clock_none base W p a d0 u h hc hu hts hgb ⟨by decide, by decide, by decide, by decide⟩ rfl
 rwa [show (Drv.clk d0).1 = d0 from rfl] at h1
def stA (fr c : Int) (on rep exp : Bool) : A := ⟨fr, c, on, rep, exp, 1, 0, 0, 0, 0, false, false, 32768, 0⟩
theorem open0 : shutA a0 1 = stA 0 0 false false false := rfl
theorem shutD1 : shutD d0 1 = d0 := rfl
theorem shutD0 : shutD d0 0 = d0 := rfl
theorem tim2 (fr c : Int) (on rep exp : Bool) : timA (stA fr c on rep exp) 2 = stA fr fr true false exp := rfl
theorem tim3 (fr c : Int) (on rep exp : Bool) : timA (stA fr c on rep exp) 3 = stA fr fr true true exp := rfl
theorem tim0 (fr c : Int) (on rep exp : Bool) : timA (stA fr c on rep exp) 0 = stA fr c false false false := rfl
theorem tick_off (fr c : Int) (rep exp : Bool) : tick (stA fr c false rep exp) = stA fr c false rep exp := rfl
theorem tick_on {fr c : Int} (h : 0 < c) (rep exp : Bool) : tick (stA fr c true rep exp) = stA fr (c - 1) true rep exp := by
 unfold tick stA
 rw [if_neg (by simp), if_pos h]
theorem tick_end (fr : Int) (rep exp : Bool) : tick (stA fr 0 true rep exp) = stA fr fr rep rep true := rfl
theorem irqS (fr c : Int) (on rep exp : Bool) : irqB (stA fr c on rep exp) = exp := by cases exp <;> rfl
theorem oS (fr c : Int) (on rep exp : Bool) : U8 (stA fr c on rep exp).opn := ⟨by show (0 : Int) ≤ 1; decide, by show (1 : Int) < 256; decide⟩
theorem cS (fr c : Int) (on rep exp : Bool) : U8 (stA fr c on rep exp).ctl := ⟨by show (0 : Int) ≤ 0; decide, by show (0 : Int) < 256; decide⟩
theorem bS (fr c : Int) (on rep exp : Bool) : bit (stA fr c on rep exp).opn 1 = true := rfl
theorem next_mod (x p : Int) (hp : 0 < p) : (x + 1) % p = if x % p + 1 = p then 0 else x % p + 1 := by
 have h := Int.emod_add_mul_ediv x p
 have h0 := Int.emod_nonneg x (show p ≠ 0 by omega)
 have h1 := Int.emod_lt_of_pos x hp
 have e : (x + 1) % p = (x % p + 1) % p := by
  conv => lhs; rw [← h]
  rw [show x % p + p * (x / p) + 1 = x % p + 1 + p * (x / p) by omega, Int.add_mul_emod_self_left]
 rw [e]
 split
 ·rename_i hh; rw [hh, Int.emod_self]
 ·exact Int.emod_eq_of_lt (by omega) (by omega)
theorem plan (fr per c i : Int) (rep : Bool) (hp : per = fr + 1 ∧ 0 ≤ fr ∧ fr < 65536) (hi : 1 ≤ i) (hc : c = fr - (i - 1) % per) (hr : rep = true ∨ i ≤ per) :
  (0 ≤ c ∧ c < 65536) ∧ (0 < c → (i % per == 0) = false ∧ c - 1 = fr - (i + 1 - 1) % per ∧ (rep = true ∨ i + 1 ≤ per)) ∧ (¬ 0 < c → c = 0 ∧ (i % per == 0) = true ∧ (rep = true ∨ (i == per) = true ∧ per < i + 1) ∧ fr = fr - (i + 1 - 1) % per) := by
 obtain ⟨hp1, hp2, hp3⟩ := hp
 have nm := next_mod (i - 1) per (by omega)
 rw [show (i - 1 + 1 : Int) = i by omega] at nm
 rw [show (i + 1 - 1 : Int) = i by omega]
 have q0 := Int.emod_nonneg (i - 1) (show per ≠ 0 by omega)
 have q1 := Int.emod_lt_of_pos (i - 1) (show 0 < per by omega)
 have q2 : i ≤ per → (i - 1) % per = i - 1 := fun h => Int.emod_eq_of_lt (by omega) (by omega)
 generalize (i - 1) % per = q at *
 refine ⟨by omega, fun h => ?_, fun h => ?_⟩
 ·rw [if_neg (by omega)] at nm
  refine ⟨by rw [beq_eq_false_iff_ne, nm]; omega, by rw [nm]; omega, hr.imp id (fun h => by have := q2 h; omega)⟩
 ·rw [if_pos (by omega)] at nm
  refine ⟨by omega, by rw [nm]; rfl, hr.imp id (fun h => by have := q2 h; exact ⟨beq_iff_eq.2 (by omega), by omega⟩), by rw [nm]; omega⟩
set_option maxHeartbeats 8000000 in
theorem awake_calls (W : World) (hts : Wave.TS W) (hg : 1 < W.heap.size) :
  Calls Tryd.prog 9 #[] W fun e W' => e = .returned (.bool true) ∧ Below W.heap.size W W' := by
 have HTS := Aside0.mk (fun (W1 : World) (hb : Below W.heap.size W W1) => hts.below hb hg)
 have HG := Aside0.mk hg
 clear hts hg
 go_enter Tryd.func9, Tryd.ntmps9
 go_wp2_with fail
 refine (newA_calls W.heap.size W (Nat.le_refl _)).mono ?_
 rintro e w1 ⟨p, rfl, hi, hb, _, _, _, _⟩
 have H1 := Aside0.mk hi; have B1 := Aside0.mk hb; clear hi hb
 go_wp2_with fail
 refine (put_open W.heap.size w1 p a0 d0 Wave.v0 H1.out 1 ⟨by decide, by decide⟩).mono ?_
 rintro e w2 ⟨rfl, hi, ht⟩
 rw [open0, shutD1] at hi
 have H2 := Aside0.mk hi; have B2 := Aside0.mk (B1.out.trans ht.below); clear hi ht
 go_wp2_with fail
 refine (put_low W.heap.size w2 p _ d0 Wave.v0 H2.out 5 ⟨by decide, by decide⟩ rfl).mono ?_
 rintro e w3 ⟨rfl, hi, ht⟩
 have H3 := Aside0.mk (show Is W.heap.size w3 p (stA 5 0 false false false) d0 Wave.v0 from hi); have B3 := Aside0.mk (B2.out.trans ht.below); clear hi ht
 go_wp2_with fail
 refine (put_timer W.heap.size w3 p _ d0 Wave.v0 H3.out ⟨by decide, by decide⟩ (by decide) 2 ⟨by decide, by decide⟩).mono ?_
 rintro e w4 ⟨rfl, hi, ht⟩
 rw [tim2] at hi
 have H4 := Aside0.mk hi; have B4 := Aside0.mk (B3.out.trans ht.below); clear hi ht
 go_wp2_with fail
 go_loopg [10] 5 (fun kq v10 w' => ∃ (i : Int) (u : Wave.V), v10 = .int .i64 i ∧ Aside0 (Is W.heap.size w' p (stA 5 (5 - i) true false false) d0 u ∧ Wave.Okv u) ∧ Aside0 (i + kq = 5 ∧ 0 ≤ i) ∧ Aside0 (Below W.heap.size W w'))
 case atStart => exact ⟨0, Wave.v0, rfl, ⟨H4.out, Wave.okv0⟩, ⟨by decide, by decide⟩, B4⟩
 case round =>
  clear H1 H2 H3 H4 B1 B2 B3 B4
  obtain ⟨i, u, rfl, HR, HI, HB⟩ := hrel
  by_cases hlt : i < 5
  ·have d1 : decide (i < 5) = true := decide_eq_true hlt
   have e1 : wrap64 (i + 1) = i + 1 := Wave.wr64 (by have := HI.out; omega) (by omega)
   have HC := Aside0.mk (clock0 W.heap.size wr p _ u HR.out.1 ⟨by show 0 ≤ 5 - i; omega, by show 5 - i < 65536; have := HI.out; omega⟩ HR.out.2 (HTS.out _ HB.out) HG.out)
   have HE := Aside0.mk (tick_on (fr := 5) (c := 5 - i) (by omega) false false)
   have HL := Aside0.mk hlt
   clear hlt
   go_wp2_with fail
   refine HC.out.mono ?_
   rintro e w5 ⟨rfl, hi, ht⟩
   rw [HE.out, show (5 - i - 1 : Int) = 5 - (i + 1) by omega] at hi
   have H5 := Aside0.mk hi; have B5 := Aside0.mk (HB.out.trans ht.below); clear hi ht
   go_wp2
   go_roundg (gk - 1)
   case measure => have := HI.out; have := HL.out; omega
   case rel => exact ⟨i + 1, _, by first | rfl | (congr 1), ⟨H5.out, Wave.clockV_ok HR.out.2⟩, ⟨by have := HI.out; have := HL.out; omega, by have := HI.out; omega⟩, B5⟩
  ·have d1 : decide (i < 5) = false := decide_eq_false hlt
   have hi5 : i = 5 := by have := HI.out; omega
   subst hi5
   clear hlt d1
   go_wp2_with fail
   refine (irq_calls W.heap.size wr p _ d0 u HR.out.1 ⟨by decide, by decide⟩).mono ?_
   rintro e w5 ⟨rfl, rfl⟩
   rw [irqS]
   go_wp2_with fail
   refine (clock0 W.heap.size wr p _ u HR.out.1 ⟨by decide, by decide⟩ HR.out.2 (HTS.out _ HB.out) HG.out).mono ?_
   rintro e w6 ⟨rfl, hi, ht⟩
   rw [show tick (stA 5 (5 - 5) true false false) = stA 5 5 false false true from rfl] at hi
   have H6 := Aside0.mk hi; have B6 := Aside0.mk (HB.out.trans ht.below); clear hi ht
   go_wp2_with fail
   refine (irq_calls W.heap.size w6 p _ d0 _ H6.out ⟨by decide, by decide⟩).mono ?_
   rintro e w7 ⟨rfl, rfl⟩
   rw [irqS]
   go_wp2
   go_ret
   exact ⟨rfl, B6.out⟩
end Go.Proofs.YtaiaapjlpbhlbaaDoor.Ada

namespace Go.Proofs.YtaiaapjlpbhlbaaDoor.Ada
open Go.RowKit Go.Proofs.YtaiaapjlpbhlbaaDoorW.PrintWords Go.Proofs.YtaiaapjlpbhlbaaDoorW.PrintLast Go.Proofs.YtaiaapjlpbhlbaaDoorW.PrintMore
set_option linter.unusedVariables false
set_option linter.unusedSimpArgs false
set_option maxRecDepth 20000
def readA (a : A) (b : Int) : A := if bit a.ctl 64 = false then a else if a.found = true then { a with inn := b, asks := true, sum := stp a.sum b } else if b = 0 then a else { a with found := true, sum := stp 32768 b }
theorem read_calls (base : Nat) (W : World) (p : P) (a : A) (d : Drv.D) (u : Wave.V) (h : Is base W p a d u) (hc : U8 a.ctl) (hs : 0 ≤ a.sum ∧ a.sum < 65536) (b : Int) (hb : U8 b) :
  Calls Tryd.prog 47 #[.pointer (some ⟨p.g, 0, none⟩), .int .u8 b] W fun e W' => e = .returned (.tuple #[]) ∧ Is base W' p (readA a b) d u ∧ Turn base W W' (Foot p) := by
 have H := Aside0.mk h
 have c8 : W.cell? ⟨p.g, 8, none⟩ = some (.int .u8 a.ctl) := h.cell 8
 have c13 : W.cell? ⟨p.g, 13, none⟩ = some (.bool a.found) := h.cell 13
 have a64 := and_bit a.ctl hc 64 (by decide)
 have HS1 := Aside0.mk (fun (W1 : World) => step_calls a.sum b hs hb W1)
 have HS2 := Aside0.mk (fun (W1 : World) => step_calls 32768 b ⟨by decide, by decide⟩ hb W1)
 unfold readA
 generalize stp a.sum b = s1 at *
 generalize stp 32768 b = s2 at *
 generalize bit a.ctl 64 = b64 at *
 cases b64
 ·rw [if_pos rfl]
  clear h hc hs hb
  go_enter Tryd.func47, Tryd.ntmps47
  go_wp2
  go_end0
  exact ⟨rfl, H.out, Drive.Turn.refl _ _ _⟩
 rw [if_neg (show ¬ (true = false) by decide)]
 by_cases hf : a.found = true
 rotate_left
 ·have hf' : a.found = false := by simpa using hf
  rw [hf'] at c13
  rw [if_neg hf]
  clear hf'
  by_cases h0 : b = 0
  ·rw [if_pos h0]
   subst h0
   clear h hc hs hb hf
   go_enter Tryd.func47, Tryd.ntmps47
   go_wp2
   go_end0
   exact ⟨rfl, H.out, Drive.Turn.refl _ _ _⟩
  ·rw [if_neg h0]
   have t0 : (b == 0) = false := by simpa using h0
   have t1 : (b != 0) = true := by rw [bne, t0]; rfl
   have c14 : W.cell? ⟨p.g, 14, none⟩ = some (.int .u16 a.sum) := h.cell 14
   have f13 := h.frozen 13
   have f14 := h.frozen 14
   clear h hc hs hb hf h0
   go_enter Tryd.func47, Tryd.ntmps47
   go_wp2_with fail
   refine (HS2.out _).mono ?_
   rintro e w2 ⟨rfl, ⟨n2, rfl⟩⟩
   go_wp2
   go_end0
   exact ⟨rfl, ((H.out.drewN n2).set_ (a' := { a with found := true }) 13 (.bool true) rfl).set_ 14 (.int .u16 s2) rfl, (((Drive.Turn.refl _ _ _).drewN n2).set_ (.inl rfl) H.out.bs _).set_ (.inl rfl) H.out.bs _⟩
 ·rw [hf] at c13
  rw [if_pos hf]
  have c9 : W.cell? ⟨p.g, 9, none⟩ = some (.int .u8 a.inn) := h.cell 9
  have c12 : W.cell? ⟨p.g, 12, none⟩ = some (.bool a.asks) := h.cell 12
  have f9 := h.frozen 9
  have f12 := h.frozen 12
  have H1 := Aside0.mk ((h.set_ (a' := { a with inn := b }) 9 (.int .u8 b) rfl).set_ (a' := { a with inn := b, asks := true }) 12 (.bool true) rfl)
  have T1 := Aside0.mk (((Drive.Turn.refl base W (Foot p)).set_ (i := 9) (.inl rfl) h.bs (.int .u8 b)).set_ (i := 12) (.inl rfl) h.bs (.bool true))
  have c14 : ((W.setCell ⟨p.g, 9, none⟩ (.int .u8 b)).setCell ⟨p.g, 12, none⟩ (.bool true)).cell? ⟨p.g, 14, none⟩ = some (.int .u16 a.sum) := H1.out.cell 14
  have f14 := H1.out.frozen 14
  clear h hc hs hb hf
  go_enter Tryd.func47, Tryd.ntmps47
  go_wp2_with fail
  refine (HS1.out _).mono ?_
  rintro e w2 ⟨rfl, ⟨n2, rfl⟩⟩
  go_wp2
  go_end0
  exact ⟨rfl, (H1.out.drewN n2).set_ (a' := { a with inn := b, asks := true, sum := s1 }) 14 (.int .u16 s1) rfl, (T1.out.drewN n2).set_ (.inl rfl) H1.out.bs _⟩
def s2I (a : A) : Int := stp (stp a.sum 0) 0
def nextA (a : A) : A :=
 if bit a.ctl 64 = false then a else if bit a.ctl 16 = false then { a with sum := stp a.sum a.out, tail := 0 }
 else if a.tail = 0 then { a with sum := s2I a, tail := 1 } else if a.tail = 1 then { a with tail := 2 } else a
def nextB (a : A) : Int :=
 if bit a.ctl 64 = false then 0 else if bit a.ctl 16 = false then a.out
 else if a.tail = 0 then s2I a % 256 else if a.tail = 1 then a.sum / 256 else 0
set_option maxHeartbeats 4000000 in
theorem next_calls (base : Nat) (W : World) (p : P) (a : A) (d : Drv.D) (u : Wave.V) (h : Is base W p a d u) (hc : U8 a.ctl) (ho : U8 a.out) (hs : 0 ≤ a.sum ∧ a.sum < 65536) (ht : 0 ≤ a.tail ∧ a.tail ≤ 2) :
  Calls Tryd.prog 50 #[.pointer (some ⟨p.g, 0, none⟩)] W fun e W' => e = .returned (.int .u8 (nextB a)) ∧ Is base W' p (nextA a) d u ∧ Turn base W W' (Foot p) := by
 have H := Aside0.mk h
 have c8 : W.cell? ⟨p.g, 8, none⟩ = some (.int .u8 a.ctl) := h.cell 8
 have c15 : W.cell? ⟨p.g, 15, none⟩ = some (.int .i64 a.tail) := h.cell 15
 have a64 := and_bit a.ctl hc 64 (by decide)
 have a16 := and_bit a.ctl hc 16 (by decide)
 have HS1 := Aside0.mk (fun (W1 : World) => step_calls a.sum a.out hs ho W1)
 have HS2 := Aside0.mk (fun (W1 : World) => step_calls a.sum 0 hs ⟨by decide, by decide⟩ W1)
 have hr2 := stp_range a.sum 0 hs
 have HS3 := Aside0.mk (fun (W1 : World) => step_calls (stp a.sum 0) 0 hr2 ⟨by decide, by decide⟩ W1)
 have hr3 := stp_range (stp a.sum 0) 0 hr2
 unfold nextA nextB s2I
 generalize stp (stp a.sum 0) 0 = s3 at *
 generalize stp a.sum 0 = s2 at *
 generalize stp a.sum a.out = s1 at *
 generalize bit a.ctl 64 = b64 at *
 generalize bit a.ctl 16 = b16 at *
 cases b64
 ·rw [if_pos rfl, if_pos rfl]
  clear h hc ho hs ht hr2 hr3
  go_enter Tryd.func50, Tryd.ntmps50
  go_wp2
  go_ret
  exact ⟨rfl, H.out, Drive.Turn.refl _ _ _⟩
 rw [if_neg (show ¬ (true = false) by decide), if_neg (show ¬ (true = false) by decide)]
 cases b16
 ·rw [if_pos rfl, if_pos rfl]
  have H1 := Aside0.mk h.drew
  have c15' : W.drew.cell? ⟨p.g, 15, none⟩ = some (.int .i64 a.tail) := H1.out.cell 15
  have f14 := h.drew.frozen 14
  have f15 := h.drew.frozen 15
  clear h hc ho hs ht hr2 hr3
  go_enter Tryd.func50, Tryd.ntmps50
  go_wp2
  refine start_ (n := 17) (S := fun w' => w'.cell? ⟨p.g, 14, none⟩ = some (.int .u16 a.sum) ∧ w'.cell? ⟨p.g, 10, none⟩ = some (.int .u8 a.out)) (ds := [13, 16]) #[false, false, false, false, false, false, false, false, false, false, false, false, false, false, false, false, false] (by kernel_rfl) rfl rfl ⟨H1.out.cell 14, H1.out.cell 10⟩ (fun hHeld => ?_)
  refine pure_ (i := 0) (N := some 17) (v := ?_) (a' := ?_) #[true, false, false, false, false, false, false, false, false, false, false, false, false, false, false, false, false] rfl rfl (by kernel_rfl) (fun _ _ _ h => h) (Or.inl ⟨by rfl, ?_⟩) ?_ ?_
  rotate_left
  ·intro w'
   go_simp
   with_reducible rfl
  rotate_left
  ·simp only [Act.put, List.setIfInBounds_toArray, List.set_cons_zero, List.set_cons_succ, i64_w, i32_w]
   rfl
  refine pure_ (i := 1) (N := some 18) (v := ?_) (a' := ?_) #[true, true, false, false, false, false, false, false, false, false, false, false, false, false, false, false, false] rfl rfl (by kernel_rfl) (fun _ _ _ h => h) (Or.inl ⟨by rfl, ?_⟩) ?_ ?_
  rotate_left
  ·intro w'
   go_simp
   with_reducible rfl
  rotate_left
  ·simp only [Act.put, List.setIfInBounds_toArray, List.set_cons_zero, List.set_cons_succ, i64_w, i32_w]
   rfl
  refine pure_ (i := 2) (N := some 19) (v := ?_) (a' := ?_) #[true, true, true, false, false, false, false, false, false, false, false, false, false, false, false, false, false] rfl rfl (by kernel_rfl) (fun _ _ _ h => h) (Or.inl ⟨by rfl, ?_⟩) ?_ ?_
  rotate_left
  ·intro w'
   go_simp
   with_reducible rfl
  rotate_left
  ·simp only [Act.put, List.setIfInBounds_toArray, List.set_cons_zero, List.set_cons_succ, i64_w, i32_w]
   rfl
  refine pure_ (i := 3) (N := some 20) (v := ?_) (a' := ?_) #[true, true, true, true, false, false, false, false, false, false, false, false, false, false, false, false, false] rfl rfl (by kernel_rfl) (fun _ _ _ h => h) (Or.inl ⟨by rfl, ?_⟩) ?_ ?_
  rotate_left
  ·intro w'
   go_simp
   with_reducible rfl
  rotate_left
  ·simp only [Act.put, List.setIfInBounds_toArray, List.set_cons_zero, List.set_cons_succ, i64_w, i32_w]
   rfl
  refine pure_ (i := 4) (N := some 21) (v := ?_) (a' := ?_) #[true, true, true, true, true, false, false, false, false, false, false, false, false, false, false, false, false] rfl rfl (by kernel_rfl) (fun _ _ _ h => h) (Or.inl ⟨by rfl, ?_⟩) ?_ ?_
  rotate_left
  ·intro w'
   go_simp
   with_reducible rfl
  rotate_left
  ·simp only [Act.put, List.setIfInBounds_toArray, List.set_cons_zero, List.set_cons_succ, i64_w, i32_w]
   rfl
  refine pure_ (i := 6) (N := some 23) (v := ?_) (a' := ?_) #[true, true, true, true, true, false, true, false, false, false, false, false, false, false, false, false, false] rfl rfl (by kernel_rfl) (fun _ _ _ h => h) (Or.inl ⟨by rfl, ?_⟩) ?_ ?_
  rotate_left
  ·intro w'
   go_simp
   with_reducible rfl
  rotate_left
  ·simp only [Act.put, List.setIfInBounds_toArray, List.set_cons_zero, List.set_cons_succ, i64_w, i32_w]
   rfl
  refine pure_ (i := 7) (N := some 24) (v := ?_) (a' := ?_) #[true, true, true, true, true, false, true, true, false, false, false, false, false, false, false, false, false] rfl rfl (by kernel_rfl) (fun _ _ _ h => h) (Or.inl ⟨by rfl, ?_⟩) ?_ ?_
  rotate_left
  ·intro w'
   go_simp
   with_reducible rfl
  rotate_left
  ·simp only [Act.put, List.setIfInBounds_toArray, List.set_cons_zero, List.set_cons_succ, i64_w, i32_w]
   rfl
  refine pure_ (i := 8) (N := some 25) (v := ?_) (a' := ?_) #[true, true, true, true, true, false, true, true, true, false, false, false, false, false, false, false, false] rfl rfl (by kernel_rfl) (fun _ _ _ h => h) (Or.inl ⟨by rfl, ?_⟩) ?_ ?_
  rotate_left
  ·intro w'
   go_simp
   with_reducible rfl
  rotate_left
  ·simp only [Act.put, List.setIfInBounds_toArray, List.set_cons_zero, List.set_cons_succ, i64_w, i32_w]
   rfl
  refine take_ (i := 5) (N := some 22) (v := ?_) (a' := ?_) #[true, true, true, true, true, true, true, true, true, false, false, false, false, false, false, false, false] rfl rfl (by kernel_rfl) (fun _ _ _ h => h) (Or.inl ⟨by rfl, ?_⟩) hHeld ?_ ?_
  rotate_left
  ·rintro w' ⟨s0, s1⟩
   go_simp
   with_reducible rfl
  rotate_left
  ·simp only [Act.put, List.setIfInBounds_toArray, List.set_cons_zero, List.set_cons_succ, i64_w, i32_w]
   rfl
  refine take_ (i := 9) (N := some 26) (v := ?_) (a' := ?_) #[true, true, true, true, true, true, true, true, true, true, false, false, false, false, false, false, false] rfl rfl (by kernel_rfl) (fun _ _ _ h => h) (Or.inl ⟨by rfl, ?_⟩) hHeld ?_ ?_
  rotate_left
  ·rintro w' ⟨s0, s1⟩
   go_simp
   with_reducible rfl
  rotate_left
  ·simp only [Act.put, List.setIfInBounds_toArray, List.set_cons_zero, List.set_cons_succ, i64_w, i32_w]
   rfl
  refine one_ (i := 10) (N := some 27) #[true, true, true, true, true, true, true, true, true, true, true, false, false, false, false, false, false] rfl rfl (by kernel_rfl) (by decide) (fun K hK => ?_)
  refine goes_ Tryd.func83 (by kernel_rfl) rfl #[.int .u16 a.sum, .int .u8 a.out] (by rfl) rfl rfl (by simp only [List.map_toArray, List.map_cons, List.map_nil]; rfl) ?_
  with_reducible refine (HS1.out _).mono ?_
  rintro e w6 ⟨rfl, ⟨n6, rfl⟩⟩
  refine ⟨_, rfl, ?_⟩
  refine hK.out _ _ ⟨(H1.out.drewN n6).cell 14, (H1.out.drewN n6).cell 10⟩ (fun hHeld => ?_)
  clear hK K
  refine norm_ (a' := ?_) ?_ ?_
  rotate_left
  ·show Act.put _ (some 27) _ = _
   simp only [Act.put, List.setIfInBounds_toArray, List.set_cons_zero, List.set_cons_succ, i64_w, i32_w]
   rfl
  refine pure_ (i := 11) (N := some 28) (v := ?_) (a' := ?_) #[true, true, true, true, true, true, true, true, true, true, true, true, false, false, false, false, false] rfl rfl (by kernel_rfl) (fun _ _ _ h => h) (Or.inl ⟨by rfl, ?_⟩) ?_ ?_
  rotate_left
  ·intro w'
   go_simp
   with_reducible rfl
  rotate_left
  ·simp only [Act.put, List.setIfInBounds_toArray, List.set_cons_zero, List.set_cons_succ, i64_w, i32_w]
   rfl
  refine pure_ (i := 12) (N := some 29) (v := ?_) (a' := ?_) #[true, true, true, true, true, true, true, true, true, true, true, true, true, false, false, false, false] rfl rfl (by kernel_rfl) (fun _ _ _ h => h) (Or.inl ⟨by rfl, ?_⟩) ?_ ?_
  rotate_left
  ·intro w'
   go_simp
   with_reducible rfl
  rotate_left
  ·simp only [Act.put, List.setIfInBounds_toArray, List.set_cons_zero, List.set_cons_succ, i64_w, i32_w]
   rfl
  refine last_ (i := 13) (N := none) #[true, true, true, true, true, true, true, true, true, true, true, true, true, true, false, false, false] rfl rfl (by kernel_rfl) (by decide) (fun K hK => ?_)
  have x14 : W.cell? ⟨p.g, 14, none⟩ = some (.int .u16 a.sum) := H.out.cell 14; have y14 := H.out.frozen 14; have y15 := H.out.frozen 15
  refine skip_ (w1 := ?_) (by rfl) rfl ?_ ?_
  rotate_left
  ·go_simp
   rfl
  refine hK.out _ _ ?_
  clear hK K
  refine pure_ (i := 14) (N := some 30) (v := ?_) (a' := ?_) #[true, true, true, true, true, true, true, true, true, true, true, true, true, true, true, false, false] rfl rfl (by kernel_rfl) (fun _ _ _ h => h) (Or.inl ⟨by rfl, ?_⟩) ?_ ?_
  rotate_left
  ·intro w'
   go_simp
   with_reducible rfl
  rotate_left
  ·simp only [Act.put, List.setIfInBounds_toArray, List.set_cons_zero, List.set_cons_succ, i64_w, i32_w]
   rfl
  refine pure_ (i := 15) (N := some 31) (v := ?_) (a' := ?_) #[true, true, true, true, true, true, true, true, true, true, true, true, true, true, true, true, false] rfl rfl (by kernel_rfl) (fun _ _ _ h => h) (Or.inl ⟨by rfl, ?_⟩) ?_ ?_
  rotate_left
  ·intro w'
   go_simp
   with_reducible rfl
  rotate_left
  ·simp only [Act.put, List.setIfInBounds_toArray, List.set_cons_zero, List.set_cons_succ, i64_w, i32_w]
   rfl
  refine last_ (i := 16) (N := none) #[true, true, true, true, true, true, true, true, true, true, true, true, true, true, true, true, true] rfl rfl (by kernel_rfl) (by decide) (fun K hK => ?_)
  refine skip_ (w1 := ?_) (by rfl) rfl ?_ ?_
  rotate_left
  ·go_simp
   rfl
  refine hK.out _ _ ?_
  clear hK K
  refine done_ (by kernel_rfl) ?_
  have H5 := Aside0.mk (((H.out.drewN (1 + n6)).set_ (a' := { a with sum := s1 }) 14 (.int .u16 s1) rfl).set_ (a' := { a with sum := s1, tail := 0 }) 15 (.int .i64 0) rfl)
  have T5 := Aside0.mk ((((Drive.Turn.refl base W (Foot p)).drewN (1 + n6)).set_ (i := 14) (.inl rfl) H.out.bs (.int .u16 s1)).set_ (i := 15) (.inl rfl) H.out.bs (.int .i64 0))
  clear x14 y14 y15 c15' f14 f15
  generalize ((W.drewN (1 + n6)).setCell ⟨p.g, 14, none⟩ (.int .u16 s1)).setCell ⟨p.g, 15, none⟩ (.int .i64 0) = w6 at *
  have k10 : w6.cell? ⟨p.g, 10, none⟩ = some (.int .u8 a.out) := H5.out.cell 10
  go_wp2
  go_ret
  exact ⟨rfl, H5.out, T5.out⟩
 rw [if_neg (show ¬ (true = false) by decide), if_neg (show ¬ (true = false) by decide)]
 have c14 : W.cell? ⟨p.g, 14, none⟩ = some (.int .u16 a.sum) := h.cell 14
 have f14 := h.frozen 14
 have f15 := h.frozen 15
 by_cases h0 : a.tail = 0
 ·rw [if_pos h0, if_pos h0]
  rw [h0] at c15
  have w3 : IntKind.u8.wrap s3 = s3 % 256 := by rw [IntKind.wrap_u8]
  clear h hc ho hs ht hr2 hr3 h0
  go_enter Tryd.func50, Tryd.ntmps50
  go_wp2_with fail
  refine (HS2.out _).mono ?_
  rintro e w2 ⟨rfl, ⟨n2, rfl⟩⟩
  go_wp2_with fail
  refine (HS3.out _).mono ?_
  rintro e w3 ⟨rfl, ⟨n3, rfl⟩⟩
  have H5 := Aside0.mk (fun (n : Nat) => ((H.out.drewN n).set_ (a' := { a with sum := s3 }) 14 (.int .u16 s3) rfl).set_ (a' := { a with sum := s3, tail := 1 }) 15 (.int .i64 1) rfl)
  have T5 := Aside0.mk (fun (n : Nat) => ((((Drive.Turn.refl base W (Foot p)).drewN n).set_ (i := 14) (.inl rfl) H.out.bs (.int .u16 s3)).set_ (i := 15) (.inl rfl) H.out.bs (.int .i64 1)))
  go_wp2
  go_ret
  exact ⟨by first | rfl | exact congrArg (fun n => Ending.returned (.int .u8 n)) w3, H5.out _, T5.out _⟩
 rw [if_neg h0, if_neg h0]
 have t0 : (a.tail == 0) = false := by simpa using h0
 by_cases h1 : a.tail = 1
 ·rw [if_pos h1, if_pos h1]
  rw [h1] at c15
  have w3 : IntKind.u8.wrap (a.sum / 256) = a.sum / 256 := by rw [IntKind.wrap_u8]; omega
  have H5 := Aside0.mk (h.set_ (a' := { a with tail := 2 }) 15 (.int .i64 2) rfl)
  have T5 := Aside0.mk ((Drive.Turn.refl base W (Foot p)).set_ (i := 15) (.inl rfl) h.bs (.int .i64 2))
  have k14 : (W.setCell ⟨p.g, 15, none⟩ (.int .i64 2)).cell? ⟨p.g, 14, none⟩ = some (.int .u16 a.sum) := H5.out.cell 14
  clear h hc ho hs ht hr2 hr3 h0 h1
  go_enter Tryd.func50, Tryd.ntmps50
  go_wp2
  go_ret
  exact ⟨by first | rfl | exact congrArg (fun n => Ending.returned (.int .u8 n)) w3, H5.out, T5.out⟩
 ·rw [if_neg h1, if_neg h1]
  have t1 : (a.tail == 1) = false := by simpa using h1
  clear h hc ho hs ht hr2 hr3 h0 h1
  go_enter Tryd.func50, Tryd.ntmps50
  go_wp2
  go_ret
  exact ⟨rfl, H.out, Drive.Turn.refl _ _ _⟩
theorem tick_keeps (a : A) : (tick a).ctl = a.ctl ∧ (tick a).out = a.out ∧ (tick a).sum = a.sum ∧ (tick a).tail = a.tail ∧ (tick a).opn = a.opn := by
 unfold tick
 split
 ·exact ⟨rfl, rfl, rfl, rfl, rfl⟩
 ·split <;> exact ⟨rfl, rfl, rfl, rfl, rfl⟩
theorem nextB_u8 {a : A} (ho : U8 a.out) (hs : 0 ≤ a.sum ∧ a.sum < 65536) : U8 (nextB a) := by
 have h3 := stp_range (stp a.sum 0) 0 (stp_range a.sum 0 hs)
 have z : U8 0 := ⟨by decide, by decide⟩
 unfold nextB s2I
 generalize stp (stp a.sum 0) 0 = s3 at *
 split
 ·exact z
 ·split
  ·exact ho
  ·split
   ·exact ⟨by omega, by omega⟩
   ·split
    ·exact ⟨by omega, by omega⟩
    ·exact z
/-- what a cycle in which a byte passes makes of the adapter, and of its drive -/
def passA (a : A) (d1 : Drv.D) : A := if bit a.ctl 2 = true then a else if bit a.ctl 4 = true then readA a (Drive.getI d1) else { nextA a with asks := true }
def passD (a : A) (d1 : Drv.D) : Drv.D := if bit a.ctl 2 = true then d1 else if bit a.ctl 4 = true then d1 else Drive.laid d1 (nextB a)
set_option maxHeartbeats 8000000 in
theorem clock_passes (base : Nat) (W : World) (p : P) (a : A) (d : Drv.D) (u : Wave.V) (h : Is base W p a d u) (hc : 0 ≤ a.count ∧ a.count < 65536) (hctl : U8 a.ctl) (ho : U8 a.out) (hs : 0 ≤ a.sum ∧ a.sum < 65536) (htl : 0 ≤ a.tail ∧ a.tail ≤ 2) (hu : Wave.Okv u) (hts : Wave.TS W) (hgb : 1 < base) (hf : Drive.Fit d) (hn : (Drv.clk d).2 = true)
  (hp : 0 ≤ (Drv.clk d).1.passed ∧ (Drv.clk d).1.passed < (Drv.clk d).1.side.length) (hgd : (Drv.clk d).1.guarded = false) (hg8 : U8 (Drive.getI (Drv.clk d).1)) :
  Calls Tryd.prog 12 #[.pointer (some ⟨p.g, 0, none⟩)] W fun e W' => e = .returned (.tuple #[]) ∧ Is base W' p (passA (tick a) (Drv.clk d).1) (passD (tick a) (Drv.clk d).1) (Wave.clockV u) ∧ Turn base W W' (Foot p) := by
 have H := Aside0.mk h
 have c1 : W.cell? ⟨p.g, 1, none⟩ = some (.pointer (some ⟨p.gw, 0, none⟩)) := h.cell 1
 have HW := Aside0.mk (Wave.clock_calls base p.gw u W h.wv hu hts hgb)
 have HT := Aside0.mk (fun (W1 : World) (h1 : Is base W1 p a d (Wave.clockV u)) => tick_calls base W1 p a d (Wave.clockV u) h1 hc)
 have HD := Aside0.mk (fun (W1 : World) (h1 : Is base W1 p (tick a) d (Wave.clockV u)) => Drive.clock_calls base p.gd p.v d W1 h1.dr hf)
 rw [hn] at HD
 have tk := tick_keeps a
 have a2 := and_bit (tick a).ctl (by rw [tk.1]; exact hctl) 2 (by decide)
 have a4 := and_bit (tick a).ctl (by rw [tk.1]; exact hctl) 4 (by decide)
 have HG := Aside0.mk (fun (W1 : World) (h1 : Is base W1 p (tick a) (Drv.clk d).1 (Wave.clockV u)) => Drive.get_calls base p.gd p.v (Drv.clk d).1 W1 h1.dr (.inr hp))
 have HRD := Aside0.mk (fun (W1 : World) (h1 : Is base W1 p (tick a) (Drv.clk d).1 (Wave.clockV u)) => read_calls base W1 p (tick a) (Drv.clk d).1 (Wave.clockV u) h1 (by rw [tk.1]; exact hctl) (by rw [tk.2.2.1]; exact hs) (Drive.getI (Drv.clk d).1) hg8)
 have HN := Aside0.mk (fun (W1 : World) (h1 : Is base W1 p (tick a) (Drv.clk d).1 (Wave.clockV u)) => next_calls base W1 p (tick a) (Drv.clk d).1 (Wave.clockV u) h1 (by rw [tk.1]; exact hctl) (by rw [tk.2.1]; exact ho) (by rw [tk.2.2.1]; exact hs) (by rw [tk.2.2.2.1]; exact htl))
 have HL := Aside0.mk (fun (W1 : World) (h1 : Is base W1 p (nextA (tick a)) (Drv.clk d).1 (Wave.clockV u)) => Drive.lay_yes base p.gd p.v (Drv.clk d).1 (nextB (tick a)) W1 h1.dr hp.1 hp.2 hgd)
 unfold passA passD
 generalize Drive.getI (Drv.clk d).1 = gb at *
 generalize readA (tick a) gb = ra at *
 generalize nextA (tick a) = na at *
 generalize nextB (tick a) = nb at *
 generalize (Drv.clk d).1 = d1 at *
 generalize Wave.clockV u = u' at *
 generalize tick a = a' at *
 generalize hq2 : bit a'.ctl 2 = b2 at *
 generalize hq4 : bit a'.ctl 4 = b4 at *
 clear h hc hctl ho hs htl hu hts hgb hf hn hp hgd hg8 tk hq2 hq4
 go_enter Tryd.func12, Tryd.ntmps12
 go_wp2_with fail
 refine HW.out.mono ?_
 rintro e w1 ⟨rfl, hi, ht⟩
 have H1 := Aside0.mk (H.out.after_wave hi ht); have T1 := Aside0.mk (of_wave (p := p) ht); clear hi ht
 go_wp2_with fail
 refine (HT.out _ H1.out).mono ?_
 rintro e w2 ⟨rfl, hi, ht⟩
 have H2 := Aside0.mk hi; have T2 := Aside0.mk (T1.out.trans ht); clear hi ht
 have c0 : w2.cell? ⟨p.g, 0, none⟩ = some (.pointer (some ⟨p.gd, 0, none⟩)) := H2.out.cell 0
 go_wp2_with fail
 refine (HD.out _ H2.out).mono ?_
 rintro e w3 ⟨rfl, hi, ht⟩
 have H3 := Aside0.mk (H2.out.after_drive hi ht); have T3 := Aside0.mk (T2.out.trans (of_drive ht)); clear hi ht
 have k0 : w3.cell? ⟨p.g, 0, none⟩ = some (.pointer (some ⟨p.gd, 0, none⟩)) := H3.out.cell 0
 have k8 : w3.cell? ⟨p.g, 8, none⟩ = some (.int .u8 a'.ctl) := H3.out.cell 8
 cases b2
 ·cases b4
  ·go_wp2
   refine start_ (n := 7) (S := fun w' => w'.cell? ⟨p.g, 0, none⟩ = some (.pointer (some ⟨p.gd, 0, none⟩))) (ds := [6]) #[false, false, false, false, false, false, false] (by kernel_rfl) rfl rfl (H3.out.drew.cell 0) (fun hHeld => ?_)
   refine pure_ (i := 0) (N := some 40) (v := ?_) (a' := ?_) #[true, false, false, false, false, false, false] rfl rfl (by kernel_rfl) (fun _ _ _ h => h) (Or.inl ⟨by rfl, ?_⟩) ?_ ?_
   rotate_left
   ·intro w'
    go_simp
    with_reducible rfl
   rotate_left
   ·simp only [Act.put, List.setIfInBounds_toArray, List.set_cons_zero, List.set_cons_succ, i64_w, i32_w]
    rfl
   refine pure_ (i := 1) (N := some 41) (v := ?_) (a' := ?_) #[true, true, false, false, false, false, false] rfl rfl (by kernel_rfl) (fun _ _ _ h => h) (Or.inl ⟨by rfl, ?_⟩) ?_ ?_
   rotate_left
   ·intro w'
    go_simp
    with_reducible rfl
   rotate_left
   ·simp only [Act.put, List.setIfInBounds_toArray, List.set_cons_zero, List.set_cons_succ, i64_w, i32_w]
    rfl
   refine pure_ (i := 2) (N := some 42) (v := ?_) (a' := ?_) #[true, true, true, false, false, false, false] rfl rfl (by kernel_rfl) (fun _ _ _ h => h) (Or.inl ⟨by rfl, ?_⟩) ?_ ?_
   rotate_left
   ·intro w'
    go_simp
    with_reducible rfl
   rotate_left
   ·simp only [Act.put, List.setIfInBounds_toArray, List.set_cons_zero, List.set_cons_succ, i64_w, i32_w]
    rfl
   refine pure_ (i := 4) (N := some 44) (v := ?_) (a' := ?_) #[true, true, true, false, true, false, false] rfl rfl (by kernel_rfl) (fun _ _ _ h => h) (Or.inl ⟨by rfl, ?_⟩) ?_ ?_
   rotate_left
   ·intro w'
    go_simp
    with_reducible rfl
   rotate_left
   ·simp only [Act.put, List.setIfInBounds_toArray, List.set_cons_zero, List.set_cons_succ, i64_w, i32_w]
    rfl
   refine take_ (i := 3) (N := some 43) (v := ?_) (a' := ?_) #[true, true, true, true, true, false, false] rfl rfl (by kernel_rfl) (fun _ _ _ h => h) (Or.inl ⟨by rfl, ?_⟩) hHeld ?_ ?_
   rotate_left
   ·intro w' s0
    go_simp
    with_reducible rfl
   rotate_left
   ·simp only [Act.put, List.setIfInBounds_toArray, List.set_cons_zero, List.set_cons_succ, i64_w, i32_w]
    rfl
   refine one_ (i := 5) (N := some 45) #[true, true, true, true, true, true, false] rfl rfl (by kernel_rfl) (by decide) (fun K hK => ?_)
   refine goes_ Tryd.func50 (by kernel_rfl) rfl #[.pointer (some ⟨p.g, 0, none⟩)] (by rfl) rfl rfl (by simp only [List.map_toArray, List.map_cons, List.map_nil]; rfl) ?_
   with_reducible refine (HN.out _ H3.out.drew).mono ?_
   rintro e w5 ⟨rfl, hi, ht⟩
   refine ⟨_, rfl, ?_⟩
   have H5 := Aside0.mk hi; have T5 := Aside0.mk (T3.out.drew.trans ht); clear hi ht
   refine hK.out _ _ (H5.out.cell 0) (fun hHeld => ?_)
   clear hK K
   refine norm_ (a' := ?_) ?_ ?_
   rotate_left
   ·show Act.put _ (some 45) _ = _
    simp only [Act.put, List.setIfInBounds_toArray, List.set_cons_zero, List.set_cons_succ, i64_w, i32_w]
    rfl
   refine last_ (i := 6) (N := some 46) #[true, true, true, true, true, true, true] rfl rfl (by kernel_rfl) (by decide) (fun K hK => ?_)
   refine goes_ Tryd.func49 (by kernel_rfl) rfl #[.pointer (some ⟨p.gd, 0, none⟩), .int .u8 nb] (by rfl) rfl rfl (by simp only [List.map_toArray, List.map_cons, List.map_nil]; rfl) ?_
   with_reducible refine (HL.out _ H5.out).mono ?_
   rintro e w6 ⟨rfl, hi, ht⟩
   refine ⟨_, rfl, ?_⟩
   have H6 := Aside0.mk (H5.out.after_drive hi ht); have T6 := Aside0.mk (T5.out.trans (of_drive ht)); clear hi ht
   refine hK.out _ _ ?_
   clear hK K
   refine norm_ (a' := ?_) ?_ ?_
   rotate_left
   ·show Act.put _ (some 46) _ = _
    simp only [Act.put, List.setIfInBounds_toArray, List.set_cons_zero, List.set_cons_succ, i64_w, i32_w]
    rfl
   refine done_ (by kernel_rfl) ?_
   have k12 : w6.cell? ⟨p.g, 12, none⟩ = some (.bool na.asks) := H6.out.cell 12
   have f12 := H6.out.frozen 12
   go_wp2
   go_end0
   exact ⟨rfl, H6.out.set_ 12 (.bool true) rfl, T6.out.set_ (.inl rfl) H6.out.bs _⟩
  ·go_wp2_with fail
   refine (HG.out _ H3.out).mono ?_
   rintro e w4 ⟨rfl, n4, rfl⟩
   go_wp2_with fail
   refine (HRD.out _ (H3.out.drewN n4)).mono ?_
   rintro e w5 ⟨rfl, hi, ht⟩
   have H5 := Aside0.mk hi; have T5 := Aside0.mk ((T3.out.drewN n4).trans ht); clear hi ht
   go_wp2
   go_end0
   exact ⟨rfl, H5.out, T5.out⟩
 ·go_wp2
  first | go_end0 | ((try simp only [Exit.inBlock, Exit.then]); refine bodyPost_ret (results_none rfl _ _ _) rfl ?_)
  exact ⟨rfl, H3.out, T3.out⟩
end Go.Proofs.YtaiaapjlpbhlbaaDoor.Ada

namespace Go.Proofs.YtaiaapjlpbhlbaaDoor.Wave
open Go.RowKit Go.Proofs.YtaiaapjlpbhlbaaDoorW.PrintWords Go.Proofs.YtaiaapjlpbhlbaaDoorW.PrintLast Go.Proofs.YtaiaapjlpbhlbaaDoorW.PrintMore
set_option linter.unusedVariables false
set_option linter.unusedSimpArgs false
theorem cells_len {base : Nat} {W : World} {g : Nat} {v : V} (h : Is base W g v) : v.cells.toArray.size = 152 := by
 rw [List.size_toArray]
 unfold V.cells V.tail
 simp only [List.length_append, u8s_len, h.lt, h.ln, h.lr, List.length_cons, List.length_nil]
theorem cells_one (v : V) : v.cells.toArray.all (·.oneCell') = true := by
 refine Array.all_eq_true_iff_forall_mem.2 fun x hx => ?_
 have hx' : x ∈ v.cells := by simpa using hx
 unfold V.cells V.tail u8s at hx'
 simp only [List.mem_append, List.mem_map, List.mem_cons, List.not_mem_nil, or_false] at hx'
 rcases hx' with ((⟨_, _, rfl⟩ | ⟨_, _, rfl⟩) | ⟨_, _, rfl⟩) | h
 ·rfl
 ·rfl
 ·rfl
 ·rcases h with rfl | rfl | rfl | rfl | rfl | rfl | rfl | rfl | rfl | rfl | rfl | rfl | rfl <;> rfl
end Go.Proofs.YtaiaapjlpbhlbaaDoor.Wave
namespace Go.Proofs.YtaiaapjlpbhlbaaDoor.Ada
open Go.RowKit Go.Proofs.YtaiaapjlpbhlbaaDoorW.PrintWords Go.Proofs.YtaiaapjlpbhlbaaDoorW.PrintLast Go.Proofs.YtaiaapjlpbhlbaaDoorW.PrintMore
set_option linter.unusedVariables false
set_option linter.unusedSimpArgs false
set_option maxRecDepth 20000
theorem drive_calls (base : Nat) (W : World) (p : P) (a : A) (d : Drv.D) (u : Wave.V) (h : Is base W p a d u) :
  Calls Tryd.prog 20 #[.pointer (some ⟨p.g, 0, none⟩)] W fun e W' => e = .returned (.pointer (some ⟨p.gd, 0, none⟩)) ∧ W = W' := by
 have c0 : W.cell? ⟨p.g, 0, none⟩ = some (.pointer (some ⟨p.gd, 0, none⟩)) := h.cell 0
 clear h
 go_enter Tryd.func20, Tryd.ntmps20
 go_wp2
 go_ret
 exact ⟨rfl, rfl⟩
theorem out_callsA (base : Nat) (W : World) (p : P) (a : A) (d : Drv.D) (u : Wave.V) (h : Is base W p a d u) (hu : Wave.Wf u) (hm : Wave.MS W) :
  Calls Tryd.prog 29 #[.pointer (some ⟨p.g, 0, none⟩)] W fun e W' => e = .returned (.int .i64 (Wave.outV u)) ∧ ∃ n, W' = W.drewN n := by
 have c1 : W.cell? ⟨p.g, 1, none⟩ = some (.pointer (some ⟨p.gw, 0, none⟩)) := h.cell 1
 have HO := Aside0.mk (Wave.out_calls base p.gw u W h.wv hu hm)
 generalize Wave.outV u = y at *
 clear h hu hm
 go_enter Tryd.func29, Tryd.ntmps29
 go_wp2_with fail
 refine HO.out.mono ?_
 rintro e w2 ⟨rfl, n2, rfl⟩
 go_wp2
 go_ret
 exact ⟨rfl, n2, rfl⟩
end Go.Proofs.YtaiaapjlpbhlbaaDoor.Ada

namespace Go.Proofs.YtaiaapjlpbhlbaaDoor.Drive
open Go.RowKit Go.Proofs.YtaiaapjlpbhlbaaDoorW.PrintWords Go.Proofs.YtaiaapjlpbhlbaaDoorW.PrintLast Go.Proofs.YtaiaapjlpbhlbaaDoorW.PrintMore
theorem which_range {n t : Int} (hn : 1 ≤ n) (h : Drv.passes n t = true) : 0 ≤ Drv.which n t ∧ Drv.which n t < n := by
 unfold Drv.passes at h
 unfold Drv.which
 have h' := of_decide_eq_true h
 have h1 := Int.emod_lt_of_pos t (show 0 < 4000 + 149 * n by omega)
 generalize t % (4000 + 149 * n) = m at *
 obtain ⟨a, b⟩ := h'
 omega
theorem Runs.lay {d : Drv.D} {p : List Int} {t : Int} (h : Runs d p t) (b : Int) : Runs (laid d b) (p.set d.passed.toNat b) t := by
 obtain ⟨hm, hs, hn, h1, h2, h3⟩ := h
 unfold laid
 refine ⟨hm, by show d.side.set _ _ = _; rw [hs], by intro e; have := congrArg List.length e; rw [List.length_set] at this; exact hn (List.length_eq_zero_iff.1 (by simpa using this)), ?_, ?_, ?_⟩
 ·show d.ready = _
  rw [h1, List.length_set]
 ·show d.left = _
  rw [h2, List.length_set]
 ·show d.pos = _
  rw [h3, List.length_set]
end Go.Proofs.YtaiaapjlpbhlbaaDoor.Drive
namespace Go.Proofs.YtaiaapjlpbhlbaaDoor.Ada
open Go.RowKit Go.Proofs.YtaiaapjlpbhlbaaDoorW.PrintWords Go.Proofs.YtaiaapjlpbhlbaaDoorW.PrintLast Go.Proofs.YtaiaapjlpbhlbaaDoorW.PrintMore
set_option linter.unusedVariables false
set_option linter.unusedSimpArgs false
set_option maxRecDepth 20000
structure Ok (a : A) : Prop where
 from_ : 0 ≤ a.from_ ∧ a.from_ < 65536
 count : 0 ≤ a.count ∧ a.count < 65536
 ctl : U8 a.ctl
 out : U8 a.out
 sum : 0 ≤ a.sum ∧ a.sum < 65536
 tail : 0 ≤ a.tail ∧ a.tail ≤ 2
theorem tick_ok {a : A} (h : Ok a) : Ok (tick a) := by
 have hc := h.count
 unfold tick
 split
 ·exact h
 ·split
  ·exact ⟨h.from_, by dsimp only; omega, h.ctl, h.out, h.sum, h.tail⟩
  ·exact ⟨h.from_, h.from_, h.ctl, h.out, h.sum, h.tail⟩
theorem read_ok {a : A} (h : Ok a) (b : Int) : Ok (readA a b) ∧ (readA a b).ctl = a.ctl := by
 unfold readA
 split
 ·exact ⟨h, rfl⟩
 ·split
  ·exact ⟨⟨h.from_, h.count, h.ctl, h.out, stp_range _ _ h.sum, h.tail⟩, rfl⟩
  ·split
   ·exact ⟨h, rfl⟩
   ·exact ⟨⟨h.from_, h.count, h.ctl, h.out, stp_range _ _ ⟨by decide, by decide⟩, h.tail⟩, rfl⟩
theorem next_ok {a : A} (h : Ok a) : Ok (nextA a) ∧ (nextA a).ctl = a.ctl := by
 unfold nextA
 split
 ·exact ⟨h, rfl⟩
 ·split
  ·exact ⟨⟨h.from_, h.count, h.ctl, h.out, stp_range _ _ h.sum, ⟨by dsimp only; decide, by dsimp only; decide⟩⟩, rfl⟩
  ·split
   ·exact ⟨⟨h.from_, h.count, h.ctl, h.out, stp_range _ _ (stp_range _ _ h.sum), ⟨by dsimp only; decide, by dsimp only; decide⟩⟩, rfl⟩
   ·split
    ·exact ⟨⟨h.from_, h.count, h.ctl, h.out, h.sum, ⟨by dsimp only; decide, by dsimp only; decide⟩⟩, rfl⟩
    ·exact ⟨h, rfl⟩
theorem pass_ok {a : A} (h : Ok a) (d : Drv.D) : Ok (passA a d) ∧ (passA a d).ctl = a.ctl := by
 unfold passA
 split
 ·exact ⟨h, rfl⟩
 ·split
  ·exact read_ok h _
  ·have n := next_ok h
   exact ⟨⟨n.1.from_, n.1.count, n.1.ctl, n.1.out, n.1.sum, n.1.tail⟩, n.2⟩
/-- an adapter whose drive runs over so many bytes -/
structure Good (base : Nat) (W : World) (p : P) (n : Nat) (c : Int) (a : A) (d : Drv.D) (u : Wave.V) (l : List Int) (t : Int) : Prop where
 is_ : Is base W p a d u
 ok : Ok a
 ctl : a.ctl = c
 runs : Drive.Runs d l t
 len : l.length = n
 byt : ∀ j, U8 (rd l j)
 grd : d.guarded = false
 okv : Wave.Okv u
theorem over {B base : Nat} {A C D : World} {S : Nat → Prop} (hb : Below B A C) (ht : Drive.Turn base C D S) (hS : ∀ i, S i → B ≤ i) (hB : B ≤ A.heap.size) : Below B A D :=
 ⟨ht.below.os.trans hb.os, ht.below.tape.trans hb.tape, ht.below.output.trans hb.output, Nat.le_trans hb.size ht.below.size, fun k hk => by
  rw [ht.kept k (by have := hb.size; omega) (fun hs => by have := hS k hs; omega)]; exact hb.block k hk⟩
theorem Is.after_insert {base : Nat} {W W1 : World} {p : P} {a : A} {d d' : Drv.D} {u : Wave.V} {v1 : Value} (h : Is base W p a d u) (hw : Drive.Is base W1 p.gd v1 d') (ht : Drive.Turn base W W1 (fun i => i = p.gd)) (hv : ∀ k, v1.ownBlock = some k → W.heap.size ≤ k) : Is base W1 ⟨p.g, p.gd, p.gw, v1⟩ a d' u :=
 ⟨(ht.kept p.g h.at_.lt (fun e => h.ne1 e)).trans h.at_, h.bs, hw, ⟨(ht.kept p.gw h.wv.at_.lt (fun e => h.ne3 e.symm)).trans h.wv.at_, h.wv.base, h.wv.lt, h.wv.ln, h.wv.lr⟩, h.ne1, h.ne2, h.ne3, fun k hk => ⟨fun e => by have h1 := hv k hk; have h2 := h.at_.lt; change k = p.g at e; omega, fun e => by have h1 := hv k hk; have h2 := h.wv.at_.lt; change k = p.gw at e; omega⟩⟩
def aI : A := ⟨0, 0, false, false, false, 1, 0, 0, 0, 0, false, false, 32768, 0⟩
set_option maxHeartbeats 4000000 in
theorem open_calls (base : Nat) (W : World) (hbase : base ≤ W.heap.size) (A0 : Option Addr) (c : Nat) (l : List Int) (hC : (Kd.int .u8).C W A0 l.length l) (hc : l.length ≤ c) (hl0 : 0 < l.length) (hl1 : l.length ≤ 65536) :
  Calls Tryd.prog 31 #[.slice A0 l.length c] W fun e W' => ∃ p : P, e = .returned (.pointer (some ⟨p.g, 0, none⟩)) ∧ Is base W' p aI (Drive.back { d0 with side := l }) Wave.v0 ∧ Below W.heap.size W W' ∧ W.heap.size ≤ p.g ∧ W.heap.size ≤ p.gd ∧ W.heap.size ≤ p.gw ∧ (∀ k, p.v.ownBlock = some k → W.heap.size ≤ k) := by
 have HC := Aside0.mk hC
 have HL := Aside0.mk (And.intro hc (And.intro hl0 hl1))
 have HB := Aside0.mk hbase
 clear hC hc hl0 hl1 hbase
 generalize hll : l.length = ll at *
 have HLL := Aside0.mk hll
 clear hll
 go_enter Tryd.func31, Tryd.ntmps31
 go_wp2_with fail
 refine (newA_calls base W HB.out).mono ?_
 rintro e w1 ⟨p, rfl, hi, hb, g1, g2, g3, hv⟩
 have H1 := Aside0.mk hi; have B1 := Aside0.mk hb; have G1 := Aside0.mk (And.intro g1 (And.intro g2 g3)); clear hi hb g1 g2 g3 hv
 have HDR := Aside0.mk (drive_calls base w1 p a0 d0 Wave.v0 H1.out)
 have HIN := Aside0.mk (show Calls Tryd.prog 21 #[.pointer (some ⟨p.gd, 0, none⟩), .slice A0 ll c] w1 fun e W' => e = .returned (.bool true) ∧ ∃ v1 : Value, Drive.Is base W' p.gd v1 (Drive.back { d0 with side := l }) ∧ (∀ k, v1.ownBlock = some k → w1.heap.size ≤ k) ∧ Drive.Turn base w1 W' (fun i => i = p.gd) from by
  have h := HLL.out
  subst h
  exact Drive.insert_yes base p.gd p.v d0 A0 c l w1 H1.out.dr rfl HL.out.2.1 HL.out.2.2 HL.out.1 (Kd.C_below HC.out B1.out) (Nat.le_trans HB.out B1.out.size))
 go_wp2_with fail
 refine HDR.out.mono ?_
 rintro e w2 ⟨rfl, rfl⟩
 go_wp2_with fail
 refine HIN.out.mono ?_
 rintro e w2 ⟨rfl, v1, hi, hv, ht⟩
 have H2 := Aside0.mk (H1.out.after_insert hi ht hv); have HV := Aside0.mk hv
 have B2 := Aside0.mk (over B1.out ht (fun i e => by change i = p.gd at e; rw [e]; exact G1.out.2.1) (Nat.le_refl _))
 have S1 := Aside0.mk B1.out.size
 clear hi hv ht
 go_wp2_with fail
 refine (put_open base w2 ⟨p.g, p.gd, p.gw, v1⟩ a0 _ Wave.v0 H2.out 1 ⟨by decide, by decide⟩).mono ?_
 rintro e w3 ⟨rfl, hi, ht⟩
 have H3 := Aside0.mk (show Is base w3 ⟨p.g, p.gd, p.gw, v1⟩ aI (Drive.back { d0 with side := l }) Wave.v0 from hi)
 have B3 := Aside0.mk (over B2.out ht (fun i e => by
  rcases e with e | e | e | e
  ·change i = p.g at e; rw [e]; exact G1.out.1
  ·change i = p.gd at e; rw [e]; exact G1.out.2.1
  ·change i = p.gw at e; rw [e]; exact G1.out.2.2
  ·exact Nat.le_trans S1.out (HV.out i e)) (Nat.le_refl _))
 clear hi ht
 go_wp2
 go_ret
 exact ⟨⟨p.g, p.gd, p.gw, v1⟩, rfl, H3.out, B3.out, G1.out.1, G1.out.2.1, G1.out.2.2, fun k hk => Nat.le_trans S1.out (HV.out k hk)⟩
end Go.Proofs.YtaiaapjlpbhlbaaDoor.Ada

namespace Go.Proofs.YtaiaapjlpbhlbaaDoor.Ada
open Go.RowKit Go.Proofs.YtaiaapjlpbhlbaaDoorW.PrintWords Go.Proofs.YtaiaapjlpbhlbaaDoorW.PrintLast Go.Proofs.YtaiaapjlpbhlbaaDoorW.PrintMore
set_option linter.unusedVariables false
set_option linter.unusedSimpArgs false
set_option maxRecDepth 20000
/-- the cycles till k bytes have passed -/
def T (k : Nat) : Int := if k = 0 then 0 else 4000 + 149 * (k : Int)
/-- how many cycles go by ahead of the one in which byte k passes -/
def wait (k : Nat) : Nat := if k = 0 then 4148 else 148
theorem wait_le (k : Nat) : wait k ≤ 4148 := by unfold wait; split <;> omega
theorem T_next (k : Nat) : T k + (wait k : Int) + 1 = T (k + 1) := by
 unfold T wait
 rw [if_neg (show ¬ k + 1 = 0 by omega)]
 by_cases h : k = 0
 ·rw [if_pos h, if_pos h]; subst h; rfl
 ·rw [if_neg h, if_neg h]; push_cast; omega
theorem T_small (k n j : Nat) (hk : k < n) (hj : j ≤ wait k) : (T k + (j : Int)) % (4000 + 149 * (n : Int)) = T k + (j : Int) := by
 apply Int.emod_eq_of_lt
 ·unfold T; split <;> omega
 ·unfold T
  unfold wait at hj
  split at hj
  ·rename_i h; rw [if_pos h]; omega
  ·rename_i h; rw [if_neg h]; omega
theorem T_none (k n j : Nat) (hk : k < n) (hj : j < wait k) : Drv.passes n (T k + (j : Int)) = false := by
 unfold Drv.passes
 rw [T_small k n j hk (by omega)]
 apply decide_eq_false
 rintro ⟨h1, h2⟩
 unfold T at h1 h2
 unfold wait at hj
 split at hj
 ·rename_i h; rw [if_pos h] at h1 h2; omega
 ·rename_i h; rw [if_neg h] at h1 h2; omega
theorem T_pass (k n : Nat) (hk : k < n) : Drv.passes n (T k + (wait k : Int)) = true ∧ Drv.which n (T k + (wait k : Int)) = k := by
 unfold Drv.passes Drv.which
 rw [T_small k n (wait k) hk (Nat.le_refl _)]
 unfold T wait
 by_cases h : k = 0
 ·rw [if_pos h, if_pos h]; subst h; exact ⟨by decide, by decide⟩
 ·rw [if_neg h, if_neg h]; exact ⟨decide_eq_true ⟨by omega, by omega⟩, by omega⟩
/-- where the head is, before a byte passes -/
theorem T_stays (k n j : Nat) (hk : k < n) (hj : j ≤ wait k) (hr : Drv.goneR n (T k + (j : Int)) = true) : Drv.goneP n (T k + (j : Int)) = k := by
 unfold Drv.goneR at hr
 have hr := of_decide_eq_true hr
 unfold Drv.goneP
 rw [T_small k n j hk hj] at hr ⊢
 rw [if_neg (by omega)]
 unfold T at hr ⊢
 unfold wait at hj
 split at hj
 ·rename_i h; rw [if_pos h] at hr ⊢; omega
 ·rename_i h; rw [if_neg h] at hr ⊢; omega
theorem T_ready (k n j : Nat) (hk : k < n) (hj : j < wait k) (hr : Drv.goneR n (T k + (j : Int)) = true) : Drv.goneR n (T k + ((j + 1 : Nat) : Int)) = true := by
 unfold Drv.goneR at *
 have hr := of_decide_eq_true hr
 rw [T_small k n j hk (by omega)] at hr
 rw [T_small k n (j + 1) hk (by omega)]
 apply decide_eq_true
 push_cast; omega
theorem T_over (k n : Nat) (hk : k < n) : Drv.goneR n (T k + (wait k : Int)) = true := by
 unfold Drv.goneR
 rw [T_small k n _ hk (Nat.le_refl _)]
 apply decide_eq_true
 unfold T wait
 split
 ·omega
 ·omega
theorem T_moved (k n : Nat) (hk : k < n) : (if Drv.goneR n (T (k + 1)) = true then Drv.goneP n (T (k + 1)) else 0) ≠ (k : Int) ∨ Drv.goneR n (T (k + 1)) = false := by
 by_cases h : k + 1 < n
 ·left
  have h1 := T_small (k + 1) n 0 h (Nat.zero_le _)
  simp only [Int.natCast_zero, Int.add_zero] at h1
  unfold Drv.goneR Drv.goneP
  rw [h1]
  unfold T
  rw [if_neg (show ¬ k + 1 = 0 by omega)]
  rw [if_pos (decide_eq_true (by push_cast; omega)), if_neg (by push_cast; omega)]
  push_cast; omega
 ·right
  unfold Drv.goneR
  have : T (k + 1) = 4000 + 149 * (n : Int) := by unfold T; rw [if_neg (by omega), show k + 1 = n by omega]
  rw [this, Int.emod_self]
  rfl
/-- an adapter under a drive that runs over the side l, t cycles behind its going back; its timer off, its registers open -/
structure Hd (base : Nat) (W : World) (p : P) (a : A) (d : Drv.D) (l : List Int) (t : Int) : Prop where
 is_ : ∃ u, Is base W p a d u ∧ Wave.Okv u
 ok : Ok a
 on : a.on = false
 opn : a.opn = 1
 runs : Drive.Runs d l t
 len : l.length ≤ 65536
 byt : ∀ j, U8 (rd l j)
 grd : d.guarded = false
theorem Hd.ready {base : Nat} {W : World} {p : P} {a : A} {d : Drv.D} {l : List Int} {t : Int} (h : Hd base W p a d l t) : Drive.readyB d = Drv.goneR l.length t ∧ Drive.atI d = (if Drv.goneR l.length t = true then Drv.goneP l.length t else 0) := by
 obtain ⟨hm, hs, hn, h1, h2, h3⟩ := h.runs
 have hb := (Drive.hasB_pos (d := d) (by rw [hs]; exact hn)).1
 have hr : Drive.readyB d = Drv.goneR l.length t := by
  unfold Drive.readyB
  rw [hm, hb, h1, hs]; rfl
 refine ⟨hr, ?_⟩
 unfold Drive.atI
 rw [hr, h3, hs]
theorem tick_same {a : A} (h : a.on = false) : tick a = a := by unfold tick; rw [if_pos h]
theorem pass_keeps (a : A) (d : Drv.D) : (passA a d).on = a.on ∧ (passA a d).opn = a.opn := by
 unfold passA readA nextA
 repeat' split
 all_goals exact ⟨rfl, rfl⟩
/-- what a byte that passes makes of the adapter, and of the side -/
def psA (a : A) (b : Int) : A := if bit a.ctl 2 = true then a else if bit a.ctl 4 = true then readA a b else { nextA a with asks := true }
def psL (a : A) (l : List Int) (k : Nat) : List Int := if bit a.ctl 2 = true then l else if bit a.ctl 4 = true then l else l.set k (nextB a)
theorem psL_len (a : A) (l : List Int) (k : Nat) : (psL a l k).length = l.length := by
 unfold psL
 split
 ·rfl
 ·split
  ·rfl
  ·exact List.length_set
theorem clock_quiet {base : Nat} {W : World} {p : P} {a : A} {d : Drv.D} {l : List Int} {t : Int} (h : Hd base W p a d l t) (hp : Drv.passes l.length t = false) (hts : Wave.TS W) (hgb : 1 < base) :
  Calls Tryd.prog 12 #[.pointer (some ⟨p.g, 0, none⟩)] W fun e W' => e = .returned (.tuple #[]) ∧ (∃ d', Hd base W' p a d' l (t + 1)) ∧ Turn base W W' (Foot p) := by
 obtain ⟨u, hi, hu⟩ := h.is_
 obtain ⟨r1, r2, r3, r4, r5⟩ := h.runs.next
 refine (clock_none base W p a d u hi h.ok.count hu hts hgb (h.runs.fit h.len) (r2.trans hp)).mono ?_
 rintro e W' ⟨rfl, hi2, ht⟩
 rw [tick_same h.on] at hi2
 exact ⟨rfl, ⟨_, ⟨⟨_, hi2, Wave.clockV_ok hu⟩, h.ok, h.on, h.opn, r1, h.len, h.byt, r4.trans h.grd⟩⟩, ht⟩
theorem clock_loud {base : Nat} {W : World} {p : P} {a : A} {d : Drv.D} {l : List Int} {t : Int} {k : Nat} (h : Hd base W p a d l t) (hp : Drv.passes l.length t = true) (hw : Drv.which l.length t = k) (hk : k < l.length) (hts : Wave.TS W) (hgb : 1 < base) :
  Calls Tryd.prog 12 #[.pointer (some ⟨p.g, 0, none⟩)] W fun e W' => e = .returned (.tuple #[]) ∧ (∃ d', Hd base W' p (psA a (rd l k)) d' (psL a l k) (t + 1)) ∧ Turn base W W' (Foot p) := by
 obtain ⟨u, hi, hu⟩ := h.is_
 obtain ⟨r1, r2, r3, r4, r5⟩ := h.runs.next
 rw [if_pos hp, hw] at r3
 have hside : (Drv.clk d).1.side = l := r1.2.1
 have hgd : (Drv.clk d).1.guarded = false := r4.trans h.grd
 have hg : Drive.getI (Drv.clk d).1 = rd l k := by unfold Drive.getI; rw [if_neg (by omega), hside, r3]
 refine (clock_passes base W p a d u hi h.ok.count h.ok.ctl h.ok.out h.ok.sum h.ok.tail hu hts hgb (h.runs.fit h.len) (r2.trans hp) (by rw [hside, r3]; omega) hgd (by rw [hg]; exact h.byt _)).mono ?_
 rintro e W' ⟨rfl, hi2, ht⟩
 rw [tick_same h.on] at hi2
 have pk := pass_keeps a (Drv.clk d).1
 have po := pass_ok h.ok (Drv.clk d).1
 have hA : passA a (Drv.clk d).1 = psA a (rd l k) := by unfold passA psA; rw [hg]
 rw [hA] at hi2 pk po
 refine ⟨rfl, ⟨_, ⟨⟨_, hi2, Wave.clockV_ok hu⟩, po.1, pk.1.trans h.on, pk.2.trans h.opn, ?_, by rw [psL_len]; exact h.len, ?_, ?_⟩⟩, ht⟩
 ·unfold passD psL
  split
  ·exact r1
  ·split
   ·exact r1
   ·have := Drive.Runs.lay r1 (nextB a)
    rwa [r3, Int.toNat_natCast] at this
 ·intro j
  unfold psL
  split
  ·exact h.byt j
  ·split
   ·exact h.byt j
   ·exact Wave.rd_set_P (fun x => U8 x) l _ _ (nextB_u8 h.ok.out h.ok.sum) h.byt j
 ·unfold passD
  split
  ·exact hgd
  ·split
   ·exact hgd
   ·exact hgd
set_option maxHeartbeats 8000000 in
/-- till byte k passes -/
theorem passes_to (base : Nat) (W : World) (p : P) (a : A) (l : List Int) (k : Nat) (h : ∃ d, Hd base W p a d l (T k)) (hk : k < l.length) (hts : Wave.TS W) (hgb : 1 < base) :
  Calls Tryd.prog 32 #[.pointer (some ⟨p.g, 0, none⟩)] W fun e W' => e = .returned (.bool true) ∧ (∃ d, Hd base W' p (psA a (rd l k)) d (psL a l k) (T (k + 1))) ∧ Turn base W W' (Foot p) := by
 obtain ⟨d, h⟩ := h
 have H := Aside0.mk h
 have HK := Aside0.mk hk
 have HTS := Aside0.mk (fun (W1 : World) (hb : Below base W W1) => hts.below hb hgb)
 have HG := Aside0.mk hgb
 clear h hk hts hgb
 go_enter Tryd.func32, Tryd.ntmps32
 go_wp2_with fail
 go_loopg [5] 4150 (fun kq v5 w' => ∃ (i : Nat) (d : Drv.D), v5 = .int .i64 (i : Int) ∧ Aside0 (Hd base w' p a d l (T k + (i : Int))) ∧ Aside0 ((i : Int) + kq = 4150 ∧ i ≤ wait k) ∧ Aside0 (Turn base W w' (Foot p)))
 case atStart => exact ⟨0, d, rfl, ⟨by rw [Int.natCast_zero, Int.add_zero]; exact H.out⟩, ⟨by decide, Nat.zero_le _⟩, ⟨Drive.Turn.refl _ _ _⟩⟩
 case round =>
  clear H
  obtain ⟨i, d, rfl, HR, HI, HT⟩ := hrel
  have d1 : decide ((i : Int) < 4150) = true := decide_eq_true (by have := HI.out.2; have := wait_le k; omega)
  have e1 : wrap64 ((i : Int) + 1) = ((i + 1 : Nat) : Int) := by rw [Wave.wr64 (by omega) (by have := HI.out.2; have := wait_le k; omega)]; rfl
  obtain ⟨u, hi, hu⟩ := HR.out.is_
  have HDR := Aside0.mk (drive_calls base wr p a d u hi)
  have HAT := Aside0.mk (Drive.at_calls base p.gd p.v d wr hi.dr)
  have HRY := Aside0.mk (Drive.ready_calls base p.gd p.v d wr hi.dr)
  clear hi hu u
  have hra := HR.out.ready
  by_cases hlt : i < wait k
  ·have HL := Aside0.mk hlt
   have HCL := Aside0.mk (clock_quiet HR.out (T_none k l.length i HK.out hlt) (HTS.out _ HT.out.below) HG.out)
   have HF := Aside0.mk (show ∀ (w3 : World) (d' : Drv.D), Hd base w3 p a d' l (T k + (i : Int) + 1) → Drive.readyB d = true → Drive.atI d' = Drive.atI d ∧ Drive.readyB d' = true from by
    intro w3 d' h3 hr
    have h3' := h3.ready
    rw [hra.1] at hr
    have hr2 := T_ready k l.length i HK.out hlt hr
    have e0 : T k + (i : Int) + 1 = T k + ((i + 1 : Nat) : Int) := by push_cast; omega
    rw [e0] at h3'
    rw [h3'.1, h3'.2, hra.2, hr, hr2, if_pos rfl, if_pos rfl, T_stays k l.length i HK.out (by omega) hr, T_stays k l.length (i + 1) HK.out (by omega) hr2]
    exact ⟨rfl, rfl⟩)
   clear hra
   generalize Drive.atI d = x0 at *
   generalize Drive.readyB d = r0 at *
   clear hlt
   go_wp2_with fail
   refine HDR.out.mono ?_
   rintro e w2 ⟨rfl, rfl⟩
   go_wp2_with fail
   refine HAT.out.mono ?_
   rintro e w2 ⟨rfl, rfl⟩
   go_wp2_with fail
   refine HDR.out.mono ?_
   rintro e w2 ⟨rfl, rfl⟩
   go_wp2_with fail
   refine HRY.out.mono ?_
   rintro e w2 ⟨rfl, rfl⟩
   go_wp2_with fail
   refine HCL.out.mono ?_
   rintro e w3 ⟨rfl, ⟨d', hg⟩, ht⟩
   have HG3 := Aside0.mk hg; have HT3 := Aside0.mk (HT.out.trans ht); clear hg ht
   have HREL := Aside0.mk (show Hd base w3 p a d' l (T k + ((i + 1 : Nat) : Int)) from by have := HG3.out; rwa [show T k + (i : Int) + 1 = T k + ((i + 1 : Nat) : Int) by push_cast; omega] at this)
   cases r0
   ·go_wp2
    go_roundg (gk - 1)
    case measure => have := HI.out; have := wait_le k; omega
    case rel => exact ⟨i + 1, d', by first | rfl | (congr 1), HREL, ⟨by have := HI.out; have := wait_le k; push_cast; omega, HL.out⟩, HT3⟩
   ·have hf := HF.out w3 d' HG3.out rfl
    obtain ⟨u', hi', hu'⟩ := HG3.out.is_
    have HDR3 := Aside0.mk (drive_calls base w3 p a d' u' hi')
    have HAT3 := Aside0.mk (Drive.at_calls base p.gd p.v d' w3 hi'.dr)
    have HRY3 := Aside0.mk (Drive.ready_calls base p.gd p.v d' w3 hi'.dr)
    clear hi' hu' u'
    rw [hf.1] at HAT3
    rw [hf.2] at HRY3
    clear hf
    have t1 : (x0 != x0) = false := by simp
    go_wp2_with fail
    refine HDR3.out.mono ?_
    rintro e w4 ⟨rfl, rfl⟩
    go_wp2_with fail
    refine HAT3.out.mono ?_
    rintro e w4 ⟨rfl, rfl⟩
    go_wp2_with fail
    refine HDR3.out.mono ?_
    rintro e w4 ⟨rfl, rfl⟩
    go_wp2_with fail
    refine HRY3.out.mono ?_
    rintro e w4 ⟨rfl, rfl⟩
    go_wp2
    go_roundg (gk - 1)
    case measure => have := HI.out; have := wait_le k; omega
    case rel => exact ⟨i + 1, d', by first | rfl | (congr 1), HREL, ⟨by have := HI.out; have := wait_le k; push_cast; omega, HL.out⟩, HT3⟩
  ·have hiw : i = wait k := by have := HI.out.2; omega
   subst hiw
   have tp := T_pass k l.length HK.out
   have HCL := Aside0.mk (clock_loud HR.out tp.1 tp.2 HK.out (HTS.out _ HT.out.below) HG.out)
   have hro := T_over k l.length HK.out
   have hst := T_stays k l.length (wait k) HK.out (Nat.le_refl _) hro
   have hr1 : Drive.readyB d = true := by rw [hra.1]; exact hro
   have ha1 : Drive.atI d = (k : Int) := by rw [hra.2, if_pos hro, hst]
   rw [ha1] at HAT
   rw [hr1] at HRY
   rw [T_next k] at HCL
   have HMV := Aside0.mk (T_moved k l.length HK.out)
   clear tp hro hst hr1 ha1 hra hlt HR
   have HPL := Aside0.mk (psL_len a l k)
   obtain ⟨kI, hkI⟩ : ∃ kI : Int, kI = (k : Int) := ⟨_, rfl⟩
   rw [← hkI] at HAT HMV
   clear hkI
   go_wp2_with fail
   refine HDR.out.mono ?_
   rintro e w2 ⟨rfl, rfl⟩
   go_wp2_with fail
   refine HAT.out.mono ?_
   rintro e w2 ⟨rfl, rfl⟩
   go_wp2_with fail
   refine HDR.out.mono ?_
   rintro e w2 ⟨rfl, rfl⟩
   go_wp2_with fail
   refine HRY.out.mono ?_
   rintro e w2 ⟨rfl, rfl⟩
   go_wp2_with fail
   refine HCL.out.mono ?_
   rintro e w3 ⟨rfl, ⟨d', hg⟩, ht⟩
   have HG3 := Aside0.mk hg; have HT3 := Aside0.mk (HT.out.trans ht); clear hg ht
   have HX := Aside0.mk (show Drive.atI d' ≠ kI ∨ Drive.readyB d' = false from by
    have h3 := HG3.out.ready
    rw [HPL.out] at h3
    rw [h3.1, h3.2]
    exact HMV.out)
   obtain ⟨u', hi', hu'⟩ := HG3.out.is_
   have HDR3 := Aside0.mk (drive_calls base w3 p (psA a (rd l k)) d' u' hi')
   have HAT3 := Aside0.mk (Drive.at_calls base p.gd p.v d' w3 hi'.dr)
   have HRY3 := Aside0.mk (Drive.ready_calls base p.gd p.v d' w3 hi'.dr)
   clear hi' hu' u'
   generalize Drive.atI d' = x1 at *
   generalize Drive.readyB d' = r1 at *
   go_wp2_with fail
   refine HDR3.out.mono ?_
   rintro e w4 ⟨rfl, rfl⟩
   go_wp2_with fail
   refine HAT3.out.mono ?_
   rintro e w4 ⟨rfl, rfl⟩
   by_cases hx : x1 = kI
   ·have t1 : (x1 != kI) = false := by rw [hx]; simp
    obtain rfl : r1 = false := HX.out.resolve_left (fun e => e hx)
    clear hx
    go_wp2_with fail
    refine HDR3.out.mono ?_
    rintro e w4 ⟨rfl, rfl⟩
    go_wp2_with fail
    refine HRY3.out.mono ?_
    rintro e w4 ⟨rfl, rfl⟩
    go_wp2
    go_ret
    exact ⟨rfl, ⟨d', HG3.out⟩, HT3.out⟩
   ·have t1 : (x1 != kI) = true := by simpa using hx
    clear hx
    go_wp2
    go_ret
    exact ⟨rfl, ⟨d', HG3.out⟩, HT3.out⟩
end Go.Proofs.YtaiaapjlpbhlbaaDoor.Ada

namespace Go.Proofs.YtaiaapjlpbhlbaaDoor.Ada
open Go.RowKit Go.Proofs.YtaiaapjlpbhlbaaDoorW.PrintWords Go.Proofs.YtaiaapjlpbhlbaaDoorW.PrintLast Go.Proofs.YtaiaapjlpbhlbaaDoorW.PrintMore
set_option linter.unusedVariables false
set_option linter.unusedSimpArgs false
set_option maxRecDepth 20000
/-- an adapter whose timer was never set: control, in, out, asks, found, sum, tail -/
def stB (c i o : Int) (k f : Bool) (s t : Int) : A := ⟨0, 0, false, false, false, 1, c, i, o, 0, k, f, s, t⟩
theorem aI_stB : aI = stB 0 0 0 false false 32768 0 := rfl
theorem stat_two (e s x r h : Bool) : Go.bits .and .u8 (statI e s x r h) 2 = (if s = true then 2 else 0) := by cases e <;> cases s <;> cases x <;> cases r <;> cases h <;> decide
theorem stat_16 (e s x r h : Bool) : Go.bits .and .u8 (statI e s x r h) 16 = (if x = true then 16 else 0) := by cases e <;> cases s <;> cases x <;> cases r <;> cases h <;> decide
theorem bit85 : bit 85 2 = false ∧ bit 85 4 = true ∧ bit 85 64 = true ∧ bit 85 16 = true := ⟨by decide, by decide, by decide, by decide⟩
/-- what a byte does to one who reads -/
theorem ps_found (i o s t b : Int) (k : Bool) : psA (stB 85 i o k true s t) b = stB 85 b o true true (stp s b) t := by
 unfold psA readA
 rw [if_neg (by show ¬ bit 85 2 = true; decide), if_pos (by show bit 85 4 = true; decide), if_neg (by show ¬ bit 85 64 = false; decide)]
 exact if_pos rfl
theorem ps_mark (i o s t b : Int) (k : Bool) (hb : b ≠ 0) : psA (stB 85 i o k false s t) b = stB 85 i o k true (stp 32768 b) t := by
 unfold psA readA
 rw [if_neg (by show ¬ bit 85 2 = true; decide), if_pos (by show bit 85 4 = true; decide), if_neg (by show ¬ bit 85 64 = false; decide), if_neg (by show ¬ false = true; decide), if_neg hb]
 rfl
theorem ps_zero (i o s t : Int) (k : Bool) : psA (stB 85 i o k false s t) 0 = stB 85 i o k false s t := by
 unfold psA readA
 rw [if_neg (by show ¬ bit 85 2 = true; decide), if_pos (by show bit 85 4 = true; decide), if_neg (by show ¬ bit 85 64 = false; decide), if_neg (by show ¬ false = true; decide), if_pos rfl]
theorem psL_read (i o s t : Int) (k f : Bool) (l : List Int) (n : Nat) : psL (stB 85 i o k f s t) l n = l := by
 unfold psL
 rw [if_neg (by show ¬ bit 85 2 = true; decide), if_pos (by show bit 85 4 = true; decide)]
theorem Hd.ofOk {base : Nat} {W : World} {p : P} {a a' : A} {d : Drv.D} {l : List Int} {t : Int} (h : Hd base W p a d l t) {W1 : World} (hi : ∀ u, Is base W p a d u → Is base W1 p a' d u) (ho : Ok a') (hon : a'.on = false) (hop : a'.opn = 1) : Hd base W1 p a' d l t :=
 ⟨by obtain ⟨u, h1, h2⟩ := h.is_; exact ⟨u, hi u h1, h2⟩, ho, hon, hop, h.runs, h.len, h.byt, h.grd⟩
/-- the status' register -/
theorem stat_hd {base : Nat} {W : World} {p : P} {a : A} {d : Drv.D} {l : List Int} {t : Int} (h : Hd base W p a d l t) (he : a.exp = false) :
  Calls Tryd.prog 14 #[.pointer (some ⟨p.g, 0, none⟩), .int .u16 16432] W fun e W' => (∃ x : Int, e = .returned (.tuple #[.int .u8 x, .bool true]) ∧ Go.bits .and .u8 x 2 = (if a.asks = true then 2 else 0) ∧ Go.bits .and .u8 x 16 = (if (bit a.ctl 16 && decide (a.sum ≠ 0)) = true then 16 else 0)) ∧ Hd base W' p { a with asks := false } d l t ∧ Turn base W W' (Foot p) := by
 obtain ⟨u, hi, hu⟩ := h.is_
 refine (get_status base W p a d u hi (by rw [h.opn]; exact ⟨by decide, by decide⟩) (by rw [h.opn]; decide) h.ok.ctl).mono ?_
 rintro e W' ⟨rfl, hi2, ht⟩
 refine ⟨⟨_, rfl, stat_two _ _ _ _ _, stat_16 _ _ _ _ _⟩, ⟨⟨u, by rw [show ({ a with asks := false } : A) = { a with exp := false, asks := false } by rw [← he]]; exact hi2, hu⟩, ⟨h.ok.from_, h.ok.count, h.ok.ctl, h.ok.out, h.ok.sum, h.ok.tail⟩, h.on, h.opn, h.runs, h.len, h.byt, h.grd⟩, ht⟩
theorem in_hd {base : Nat} {W : World} {p : P} {a : A} {d : Drv.D} {l : List Int} {t : Int} (h : Hd base W p a d l t) :
  Calls Tryd.prog 14 #[.pointer (some ⟨p.g, 0, none⟩), .int .u16 16433] W fun e W' => e = .returned (.tuple #[.int .u8 a.inn, .bool true]) ∧ Hd base W' p { a with asks := false } d l t ∧ Turn base W W' (Foot p) := by
 obtain ⟨u, hi, hu⟩ := h.is_
 refine (get_in base W p a d u hi (by rw [h.opn]; exact ⟨by decide, by decide⟩) (by rw [h.opn]; decide)).mono ?_
 rintro e W' ⟨rfl, hi2, ht⟩
 exact ⟨rfl, ⟨⟨u, hi2, hu⟩, ⟨h.ok.from_, h.ok.count, h.ok.ctl, h.ok.out, h.ok.sum, h.ok.tail⟩, h.on, h.opn, h.runs, h.len, h.byt, h.grd⟩, ht⟩
/-- registers that are put -/
theorem put25_hd {base : Nat} {W : World} {p : P} {a : A} {d : Drv.D} {l : List Int} {t : Int} (h : Hd base W p a d l t) (b : Int) (hb : U8 b) (h1 : bit b 1 = true) (hm : Wave.MS W) :
  Calls Tryd.prog 11 #[.pointer (some ⟨p.g, 0, none⟩), .int .u16 16421, .int .u8 b] W fun e W' => e = .returned (.tuple #[]) ∧ Hd base W' p (cmdA a b) d l t ∧ Turn base W W' (Foot p) := by
 obtain ⟨u, hi, hu⟩ := h.is_
 refine (put_calls base W p a d u hi (by rw [h.opn]; exact ⟨by decide, by decide⟩) hu.wf hm 16421 b ⟨by decide, by decide⟩ hb).mono ?_
 rintro e W' ⟨rfl, hi2, ht⟩
 have e1 : putA a 16421 b = cmdA a b := by unfold putA diskA; rw [if_neg (by decide), if_pos (by rw [h.opn]; decide), if_neg (by decide), if_pos rfl]
 have e2 : putD a d 16421 b = d := by unfold putD diskD mot; rw [if_neg (by decide), if_pos (by rw [h.opn]; decide), if_pos rfl, if_pos (by rw [h1]; exact h.runs.1)]
 have e3 : putU a u 16421 b = u := by unfold putU; rw [if_neg (fun e => absurd e.1 (by decide))]
 rw [e1, e2, e3] at hi2
 have hc : Ok (cmdA a b) ∧ (cmdA a b).on = a.on ∧ (cmdA a b).opn = a.opn := by
  unfold cmdA
  split
  ·exact ⟨⟨h.ok.from_, h.ok.count, hb, h.ok.out, h.ok.sum, h.ok.tail⟩, rfl, rfl⟩
  ·exact ⟨⟨h.ok.from_, h.ok.count, hb, h.ok.out, ⟨by dsimp only; decide, by dsimp only; decide⟩, ⟨by dsimp only; decide, by dsimp only; decide⟩⟩, rfl, rfl⟩
 exact ⟨rfl, ⟨⟨u, hi2, hu⟩, hc.1, hc.2.1.trans h.on, hc.2.2.trans h.opn, h.runs, h.len, h.byt, h.grd⟩, ht⟩
theorem put24_hd {base : Nat} {W : World} {p : P} {a : A} {d : Drv.D} {l : List Int} {t : Int} (h : Hd base W p a d l t) (b : Int) (hb : U8 b) (hm : Wave.MS W) :
  Calls Tryd.prog 11 #[.pointer (some ⟨p.g, 0, none⟩), .int .u16 16420, .int .u8 b] W fun e W' => e = .returned (.tuple #[]) ∧ Hd base W' p { a with out := b, asks := false } d l t ∧ Turn base W W' (Foot p) := by
 obtain ⟨u, hi, hu⟩ := h.is_
 refine (put_calls base W p a d u hi (by rw [h.opn]; exact ⟨by decide, by decide⟩) hu.wf hm 16420 b ⟨by decide, by decide⟩ hb).mono ?_
 rintro e W' ⟨rfl, hi2, ht⟩
 have e1 : putA a 16420 b = { a with out := b, asks := false } := by unfold putA diskA; rw [if_neg (by decide), if_pos (by rw [h.opn]; decide), if_pos rfl]
 have e2 : putD a d 16420 b = d := by unfold putD diskD; rw [if_neg (by decide), if_pos (by rw [h.opn]; decide), if_neg (by decide)]
 have e3 : putU a u 16420 b = u := by unfold putU; rw [if_neg (fun e => absurd e.1 (by decide))]
 rw [e1, e2, e3] at hi2
 exact ⟨rfl, ⟨⟨u, hi2, hu⟩, ⟨h.ok.from_, h.ok.count, h.ok.ctl, hb, h.ok.sum, h.ok.tail⟩, h.on, h.opn, h.runs, h.len, h.byt, h.grd⟩, ht⟩
/-- the motor is turned on -/
theorem put25_go {base : Nat} {W : World} {p : P} {a : A} {l : List Int} {u : Wave.V} (hi : Is base W p a (Drive.back { d0 with side := l }) u) (hu : Wave.Okv u) (ok : Ok a) (on : a.on = false) (opn : a.opn = 1) (hl0 : l ≠ []) (hl1 : l.length ≤ 65536) (hby : ∀ j, U8 (rd l j)) (b : Int) (hb : U8 b) (h1 : bit b 1 = true) (hm : Wave.MS W) :
  Calls Tryd.prog 11 #[.pointer (some ⟨p.g, 0, none⟩), .int .u16 16421, .int .u8 b] W fun e W' => e = .returned (.tuple #[]) ∧ (∃ d, Hd base W' p (cmdA a b) d l 0) ∧ Turn base W W' (Foot p) := by
 refine (put_calls base W p a _ u hi (by rw [opn]; exact ⟨by decide, by decide⟩) hu.wf hm 16421 b ⟨by decide, by decide⟩ hb).mono ?_
 rintro e W' ⟨rfl, hi2, ht⟩
 have e1 : putA a 16421 b = cmdA a b := by unfold putA diskA; rw [if_neg (by decide), if_pos (by rw [opn]; decide), if_neg (by decide), if_pos rfl]
 have e2 : putD a (Drive.back { d0 with side := l }) 16421 b = Drive.back { Drive.back { d0 with side := l } with motor := true } := by unfold putD diskD mot; rw [if_neg (by decide), if_pos (by rw [opn]; decide), if_pos rfl, h1, if_neg (by show ¬ false = true; decide)]
 have e3 : putU a u 16421 b = u := by unfold putU; rw [if_neg (fun e => absurd e.1 (by decide))]
 rw [e1, e2, e3] at hi2
 have hc : Ok (cmdA a b) ∧ (cmdA a b).on = a.on ∧ (cmdA a b).opn = a.opn := by
  unfold cmdA
  split
  ·exact ⟨⟨ok.from_, ok.count, hb, ok.out, ok.sum, ok.tail⟩, rfl, rfl⟩
  ·exact ⟨⟨ok.from_, ok.count, hb, ok.out, ⟨by dsimp only; decide, by dsimp only; decide⟩, ⟨by dsimp only; decide, by dsimp only; decide⟩⟩, rfl, rfl⟩
 have hr := Drive.Runs.of_back (d := { Drive.back { d0 with side := l } with motor := true }) rfl hl0
 exact ⟨rfl, ⟨_, ⟨⟨u, hi2, hu⟩, hc.1, hc.2.1.trans on, hc.2.2.trans opn, hr, hl1, hby, rfl⟩⟩, ht⟩
/-- what is ahead of one who reads: at kk the byte that asks, with the sum s2 -/
def Ahead (l : List Int) (f : Bool) (j : Nat) (s : Int) (kk : Nat) (s2 : Int) (room : Nat) : Prop :=
 (f = true ∧ j = kk ∧ s = s2 ∧ 1 ≤ room) ∨ (f = false ∧ ∃ z, kk = j + z + 1 ∧ (∀ q, q < z → rd l ((j + q : Nat) : Int) = 0) ∧ rd l ((j + z : Nat) : Int) ≠ 0 ∧ s2 = stp 32768 (rd l ((j + z : Nat) : Int)) ∧ z + 2 ≤ room)
theorem Ahead.le {l : List Int} {f : Bool} {j : Nat} {s : Int} {kk : Nat} {s2 : Int} {room : Nat} (h : Ahead l f j s kk s2 room) : j ≤ kk ∧ 1 ≤ room := by
 rcases h with ⟨_, h, _, hr⟩ | ⟨_, z, h, _, _, _, hr⟩
 ·exact ⟨by omega, hr⟩
 ·exact ⟨by omega, by omega⟩
theorem Ahead.step {l : List Int} {j : Nat} {s : Int} {kk : Nat} {s2 : Int} {room : Nat} (i o t : Int) (h : Ahead l false j s kk s2 room) : ∃ f' s', psA (stB 85 i o false false s t) (rd l (j : Int)) = stB 85 i o false f' s' t ∧ Ahead l f' (j + 1) s' kk s2 (room - 1) := by
 rcases h with ⟨h, _⟩ | ⟨_, z, hk, h0, hm, hs, hr⟩
 ·cases h
 ·rcases z with _ | z
  ·rw [Nat.add_zero] at hm hs
   exact ⟨true, stp 32768 (rd l (j : Int)), ps_mark _ _ _ _ _ _ hm, .inl ⟨rfl, by omega, hs.symm, by omega⟩⟩
  ·have z0 := h0 0 (by omega)
   rw [Nat.add_zero] at z0
   rw [z0]
   exact ⟨false, s, ps_zero _ _ _ _ _, .inr ⟨rfl, z, by omega, fun q hq => by rw [show j + 1 + q = j + (q + 1) by omega]; exact h0 (q + 1) (by omega), by rw [show j + 1 + z = j + (z + 1) by omega]; exact hm, by rw [show j + 1 + z = j + (z + 1) by omega]; exact hs, by omega⟩⟩
set_option maxHeartbeats 8000000 in
theorem pull_to (base : Nat) (W : World) (p : P) (i0 o t : Int) (f : Bool) (s : Int) (l : List Int) (k kk : Nat) (s2 : Int) (h : ∃ d, Hd base W p (stB 85 i0 o false f s t) d l (T k)) (ha : Ahead l f k s kk s2 600) (hk : kk < l.length) (hts : Wave.TS W) (hgb : 1 < base) :
  Calls Tryd.prog 74 #[.pointer (some ⟨p.g, 0, none⟩)] W fun e W' => e = .returned (.tuple #[.int .u8 (rd l (kk : Int)), .bool true]) ∧ (∃ d, Hd base W' p (stB 85 (rd l (kk : Int)) o false true (stp s2 (rd l (kk : Int))) t) d l (T (kk + 1))) ∧ Turn base W W' (Foot p) := by
 have H := Aside0.mk h
 have HA := Aside0.mk ha
 have HK := Aside0.mk hk
 have HTS := Aside0.mk (fun (W1 : World) (hb : Below base W W1) => hts.below hb hgb)
 have HG := Aside0.mk hgb
 clear h ha hk hts hgb
 go_enter Tryd.func74, Tryd.ntmps74
 go_wp2_with fail
 go_loopg [6] 600 (fun kq v6 w' => ∃ (i : Nat) (f : Bool) (s : Int) (j : Nat), v6 = .int .i64 (i : Int) ∧ Aside0 (∃ d, Hd base w' p (stB 85 i0 o false f s t) d l (T j)) ∧ Aside0 ((i : Int) + kq = 600 ∧ Ahead l f j s kk s2 (600 - i)) ∧ Aside0 (Turn base W w' (Foot p)))
 case atStart => exact ⟨0, f, s, k, rfl, H, ⟨by decide, HA.out⟩, ⟨Drive.Turn.refl _ _ _⟩⟩
 case round =>
  clear H HA
  obtain ⟨i, f, s, j, rfl, HR, HI, HT⟩ := hrel
  have hle := HI.out.2.le
  have d1 : decide ((i : Int) < 600) = true := decide_eq_true (by omega)
  have e1 : wrap64 ((i : Int) + 1) = ((i + 1 : Nat) : Int) := by rw [Wave.wr64 (by omega) (by omega)]; rfl
  have HP := Aside0.mk (passes_to base wr p _ l j HR.out (Nat.lt_of_le_of_lt hle.1 HK.out) (HTS.out _ HT.out.below) HG.out)
  rw [psL_read] at HP
  clear hle
  cases f
  ·obtain ⟨f', s', hps, hah⟩ := HI.out.2.step i0 o t
   rw [hps] at HP
   have HAH := Aside0.mk hah
   clear hps hah
   go_wp2_with fail
   refine HP.out.mono ?_
   rintro e w2 ⟨rfl, ⟨d2, h2⟩, ht⟩
   have T2 := Aside0.mk (HT.out.trans ht)
   have HS := Aside0.mk (stat_hd h2 rfl)
   clear h2 ht
   go_wp2_with fail
   refine HS.out.mono ?_
   rintro e w3 ⟨⟨x, rfl, hx, hx16⟩, h3, ht⟩
   have hx : Go.bits .and .u8 x 2 = 0 := hx
   have H3 := Aside0.mk (show ∃ d, Hd base w3 p (stB 85 i0 o false f' s' t) d l (T (j + 1)) from ⟨d2, h3⟩)
   have T3 := Aside0.mk (T2.out.trans ht)
   clear h3 ht hx16
   go_wp2
   go_roundg (gk - 1)
   case measure => have := HI.out.1; have := HI.out.2.le; omega
   case rel => exact ⟨i + 1, f', s', j + 1, by first | rfl | (congr 1), H3, ⟨by have := HI.out.1; have := HI.out.2.le; push_cast; omega, by rw [show 600 - (i + 1) = 600 - i - 1 by omega]; exact HAH.out⟩, T3⟩
  ·obtain ⟨hj, hs⟩ : j = kk ∧ s = s2 := by
    rcases HI.out.2 with ⟨_, hj, hs, _⟩ | ⟨h, _⟩
    ·exact ⟨hj, hs⟩
    ·cases h
   subst hj
   subst hs
   rw [ps_found] at HP
   go_wp2_with fail
   refine HP.out.mono ?_
   rintro e w2 ⟨rfl, ⟨d2, h2⟩, ht⟩
   have T2 := Aside0.mk (HT.out.trans ht)
   have HS := Aside0.mk (stat_hd h2 rfl)
   clear h2 ht
   go_wp2_with fail
   refine HS.out.mono ?_
   rintro e w3 ⟨⟨x, rfl, hx, hx16⟩, h3, ht⟩
   have hx : Go.bits .and .u8 x 2 = 2 := hx
   have T3 := Aside0.mk (T2.out.trans ht)
   have HIN := Aside0.mk (in_hd h3)
   clear h3 ht hx16
   go_wp2_with fail
   refine HIN.out.mono ?_
   rintro e w4 ⟨rfl, h4, ht⟩
   have H4 := Aside0.mk (show ∃ d, Hd base w4 p (stB 85 (rd l (j : Int)) o false true (stp s (rd l (j : Int))) t) d l (T (j + 1)) from ⟨d2, h4⟩)
   have T4 := Aside0.mk (T3.out.trans ht)
   clear h4 ht
   go_wp2
   first | go_ret2 | ((try simp only [Exit.inBlock, Exit.then]); refine bodyPost_ret (results_tmp2 rfl _ _ _) rfl ?_)
   exact ⟨rfl, H4.out, T4.out⟩
end Go.Proofs.YtaiaapjlpbhlbaaDoor.Ada

namespace Go.Proofs.YtaiaapjlpbhlbaaDoor.Ada
open Go.RowKit Go.Proofs.YtaiaapjlpbhlbaaDoorW.PrintWords Go.Proofs.YtaiaapjlpbhlbaaDoorW.PrintLast Go.Proofs.YtaiaapjlpbhlbaaDoorW.PrintMore
set_option linter.unusedVariables false
set_option linter.unusedSimpArgs false
set_option maxRecDepth 20000
theorem infoU8 : (Tryd.prog.info? 5).map (fun i => (i.zero, i.size, i.bytes)) = some (some (.int .u8 0), 1, 1) := by kernel_rfl
/-- the sum behind bytes -/
def stpL (s : Int) (q : List Int) : Int := q.foldl stp s
theorem stpL_snoc (s : Int) (q : List Int) (b : Int) : stpL s (q ++ [b]) = stp (stpL s q) b := by unfold stpL; rw [List.foldl_append]; rfl
/-- the adapter's blocks lie below B -/
structure Low (p : P) (B : Nat) : Prop where
 a1 : p.g < B
 a2 : p.gd < B
 a3 : p.gw < B
 a4 : ∀ k, p.v.ownBlock = some k → k < B
theorem Is.low {base : Nat} {W : World} {p : P} {a : A} {d : Drv.D} {u : Wave.V} (h : Is base W p a d u) : Low p W.heap.size := ⟨h.at_.lt, h.dr.1.lt, h.wv.at_.lt, fun k hk => Kd.R_lt h.dr.2.2.1 k hk⟩
theorem Low.mono {p : P} {B C : Nat} (h : Low p B) (hb : B ≤ C) : Low p C := ⟨Nat.lt_of_lt_of_le h.a1 hb, Nat.lt_of_lt_of_le h.a2 hb, Nat.lt_of_lt_of_le h.a3 hb, fun k hk => Nat.lt_of_lt_of_le (h.a4 k hk) hb⟩
theorem Low.not {p : P} {B i : Nat} (h : Low p B) (hi : B ≤ i) : ¬ Foot p i := by
 rintro (e | e | e | e)
 ·have := h.a1; omega
 ·have := h.a2; omega
 ·have := h.a3; omega
 ·have := h.a4 _ e; omega
theorem Is.keptB {base B : Nat} {W W1 : World} {p : P} {a : A} {d : Drv.D} {u : Wave.V} (h : Is base W p a d u) (lo : Low p B) (hb : Below B W W1) : Is base W1 p a d u :=
 ⟨(hb.block p.g lo.a1).trans h.at_, h.bs, ⟨(hb.block p.gd lo.a2).trans h.dr.1, h.dr.2.1, R_kept (S := fun i => B ≤ i) h.dr.2.2.1 (fun i _ hi => hb.block i (by omega)) (fun k hk => by have := lo.a4 k hk; omega), h.dr.2.2.2⟩, ⟨(hb.block p.gw lo.a3).trans h.wv.at_, h.wv.base, h.wv.lt, h.wv.ln, h.wv.lr⟩, h.ne1, h.ne2, h.ne3, h.own⟩
theorem Hd.keptB {base B : Nat} {W W1 : World} {p : P} {a : A} {d : Drv.D} {l : List Int} {t : Int} (h : Hd base W p a d l t) (lo : Low p B) (hb : Below B W W1) : Hd base W1 p a d l t :=
 ⟨by obtain ⟨u, h1, h2⟩ := h.is_; exact ⟨u, h1.keptB lo hb, h2⟩, h.ok, h.on, h.opn, h.runs, h.len, h.byt, h.grd⟩
theorem Turn.over {base : Nat} {W C D : World} {S : Nat → Prop} (h : Drive.Turn base W C S) (hb : Below W.heap.size C D) (hB : base ≤ W.heap.size) : Drive.Turn base W D S :=
 ⟨h.below.trans (hb.mono hB), fun i hi hn => (hb.block i hi).trans (h.kept i hi hn)⟩
theorem R_turn {base B : Nat} {W W' : World} {p : P} {v : Value} {xs : List Int} (h : (Kd.int .u8).R 5 W B (fun _ => True) v xs) (lo : Low p B) (ht : Drive.Turn base W W' (Foot p)) : (Kd.int .u8).R 5 W' B (fun _ => True) v xs :=
 R_kept h ht.kept (fun k hk => lo.not (Kd.R_base h k hk))
theorem cmd85 (i o : Int) : cmdA (stB 5 i o false false 32768 0) 85 = stB 85 i o false false 32768 0 := by
 unfold cmdA
 rw [if_pos ⟨by decide, by decide⟩]
 rfl
theorem take_snoc (l : List Int) (k m i : Nat) (hi : i < m) (hl : k + m ≤ l.length) : ((l.drop k).take m).take (i + 1) = ((l.drop k).take m).take i ++ [rd l ((k + i : Nat) : Int)] := by
 rw [List.take_take, List.take_take, Nat.min_eq_left (by omega), Nat.min_eq_left (by omega), List.take_succ_eq_append_getElem (by rw [List.length_drop]; omega)]
 congr 1
 unfold rd
 rw [Int.toNat_natCast, List.getD_eq_getElem?_getD, List.getElem?_eq_getElem (by omega)]
 simp
/-- where one stands behind i bytes that asked -/
def Stand (l : List Int) (k z : Nat) (m : Nat) (i : Nat) (f : Bool) (j : Nat) (s : Int) : Prop :=
 (i = 0 ∧ f = false ∧ j = k ∧ s = 32768) ∨ (0 < i ∧ f = true ∧ j = k + z + 1 + i ∧ s = stpL (stp 32768 (rd l ((k + z : Nat) : Int))) (((l.drop (k + z + 1)).take m).take i))
theorem Stand.ahead {l : List Int} {k z m i : Nat} {f : Bool} {j : Nat} {s : Int} (h : Stand l k z m i f j s) (hz : ∀ q, q < z → rd l ((k + q : Nat) : Int) = 0) (hm : rd l ((k + z : Nat) : Int) ≠ 0) (hz2 : z + 2 ≤ 600) :
  Ahead l f j s (k + z + 1 + i) (stpL (stp 32768 (rd l ((k + z : Nat) : Int))) (((l.drop (k + z + 1)).take m).take i)) 600 := by
 rcases h with ⟨rfl, rfl, rfl, rfl⟩ | ⟨h0, rfl, rfl, rfl⟩
 ·exact .inr ⟨rfl, z, rfl, hz, hm, rfl, hz2⟩
 ·exact .inl ⟨rfl, rfl, rfl, by decide⟩
theorem Stand.next {l : List Int} {k z m i : Nat} (hi : i < m) (hl : k + z + 1 + m ≤ l.length) : Stand l k z m (i + 1) true (k + z + 1 + i + 1) (stp (stpL (stp 32768 (rd l ((k + z : Nat) : Int))) (((l.drop (k + z + 1)).take m).take i)) (rd l ((k + z + 1 + i : Nat) : Int))) :=
 .inr ⟨by omega, rfl, by omega, by rw [take_snoc l (k + z + 1) m i hi hl, stpL_snoc]⟩
set_option maxHeartbeats 8000000 in
theorem read_core (base : Nat) (W : World) (p : P) (l Q : List Int) (k z n m : Nat) (i0 o s0 : Int) (hmn : m = n + 2) (hQ : Q = (l.drop (k + z + 1)).take m) (hs0 : s0 = stp 32768 (rd l ((k + z : Nat) : Int)))
  (hput : Calls Tryd.prog 11 #[.pointer (some ⟨p.g, 0, none⟩), .int .u16 16421, .int .u8 5] W fun e W' => e = .returned (.tuple #[]) ∧ (∃ d, Hd base W' p (stB 5 i0 o false false 32768 0) d l (T k)) ∧ Turn base W W' (Foot p))
  (lo : Low p W.heap.size) (hbase : base ≤ W.heap.size) (hz : ∀ q, q < z → rd l ((k + q : Nat) : Int) = 0) (hm : rd l ((k + z : Nat) : Int) ≠ 0) (hz2 : z + 2 ≤ 600) (hn : n ≤ 65536) (hl : k + z + 1 + m ≤ l.length)
  (hms : Wave.MS W) (hgm : 0 < base) (hts : Wave.TS W) (hgb : 1 < base) :
  Calls Tryd.prog 37 #[.pointer (some ⟨p.g, 0, none⟩), .int .i64 (n : Int)] W fun e W' =>
   (∃ (A : Option Addr) (c : Nat), e = .returned (.tuple #[.slice A n c, .bool (decide (stpL s0 Q = 0))]) ∧ n ≤ c ∧ (Kd.int .u8).C W' A n (Q.take n)) ∧
   (∃ i' d, Hd base W' p (stB 85 i' o false true (stpL s0 Q) 0) d l (T (k + z + 1 + m))) ∧ Turn base W W' (Foot p) := by
 have HPUT := Aside0.mk hput
 have LO := Aside0.mk lo
 have HBS := Aside0.mk hbase
 have HZ := Aside0.mk (And.intro hz (And.intro hm hz2))
 have HL := Aside0.mk (And.intro hn hl)
 have HMS := Aside0.mk (fun (W1 : World) (hb : Below base W W1) => hms.below hb hgm)
 have HTS := Aside0.mk (fun (W1 : World) (hb : Below base W W1) => hts.below hb hgb)
 have HG := Aside0.mk hgb
 obtain ⟨N, hN⟩ : ∃ N : Int, N = (m : Int) := ⟨_, rfl⟩
 have e2 : wrap64 ((n : Int) + 2) = N := by rw [Wave.wr64 (by omega) (by omega)]; omega
 have HN := Aside0.mk hN
 clear hN
 have HM := Aside0.mk hmn
 have HQD := Aside0.mk hQ
 have HSD := Aside0.mk hs0
 have HQ := Aside0.mk (show Q.length = m by rw [hQ, List.length_take, List.length_drop]; omega)
 clear hput lo hbase hz hm hz2 hn hl hms hgm hts hgb hmn hQ hs0
 go_enter Tryd.func37, Tryd.ntmps37
 go_wp2_with fail
 refine HPUT.out.mono ?_
 rintro e w1 ⟨rfl, ⟨d1, h1⟩, ht⟩
 have T1 := Aside0.mk ht
 have HP2 := Aside0.mk (put25_hd h1 85 ⟨by decide, by decide⟩ (by decide) (HMS.out _ ht.below))
 rw [cmd85] at HP2
 clear h1 ht HPUT
 go_wp2_with fail
 refine HP2.out.mono ?_
 rintro e w2 ⟨rfl, h2, ht⟩
 have H2 := Aside0.mk h2
 have T2 := Aside0.mk (T1.out.trans ht)
 clear h2 ht HP2
 go_wp2_with fail
 generalize hB : W.heap.size = B at *
 have HB := Aside0.mk hB
 clear hB
 rw [e2]
 clear e2
 go_loopg [6, 17] m (fun kq v6 v17 w' => ∃ (i : Nat) (vo : Value), v6 = vo ∧ v17 = .int .i64 (i : Int) ∧ Aside0 ((i : Int) + kq = N) ∧ Aside0 ((Kd.int .u8).R 5 w' B (fun _ => True) vo (Q.take i)) ∧ Aside0 (∃ (i' : Int) (f : Bool) (j : Nat) (s : Int) (d : Drv.D), Hd base w' p (stB 85 i' o false f s 0) d l (T j) ∧ Stand l k z m i f j s) ∧ Aside0 (Turn base W w' (Foot p)))
 case atStart => exact ⟨0, _, rfl, rfl, ⟨by have := HN.out; omega⟩, ⟨Kd.R_nil _ _ _ _ _⟩, ⟨_, _, _, _, _, H2.out, .inl ⟨rfl, rfl, rfl, rfl⟩⟩, T2⟩
 case round =>
  clear H2 T2 T1
  obtain ⟨i, vo, rfl, rfl, HI, HO, HS, HT⟩ := hrel
  have e1 : wrap64 ((i : Int) + 1) = ((i + 1 : Nat) : Int) := by rw [Wave.wr64 (by omega) (by have := HI.out; have := HL.out.1; have := HM.out; have := HN.out; omega)]; rfl
  by_cases hlt : i < m
  ·have d1 : decide ((i : Int) < N) = true := decide_eq_true (by have := HN.out; omega)
   have HLT := Aside0.mk hlt
   obtain ⟨i', f, j, s, d, hd, hst⟩ := HS.out
   have hah := hst.ahead HZ.out.1 HZ.out.2.1 HZ.out.2.2
   rw [← HSD.out, ← HQD.out] at hah
   have HP := Aside0.mk (pull_to base wr p i' o 0 f s l j (k + z + 1 + i) _ ⟨d, hd⟩ hah (by have := HL.out.2; omega) (HTS.out _ HT.out.below) HG.out)
   clear hd hst hlt hah
   obtain ⟨qs, hqs⟩ : ∃ qs, qs = Q.take i := ⟨_, rfl⟩
   have HQS := Aside0.mk hqs
   rw [← hqs] at HO HP
   clear hqs
   obtain ⟨bb, hbb⟩ : ∃ bb, bb = rd l ((k + z + 1 + i : Nat) : Int) := ⟨_, rfl⟩
   have HBB := Aside0.mk hbb
   rw [← hbb] at HP
   clear hbb
   have HQL := Aside0.mk (show qs.length ≤ 100000 by rw [HQS.out, List.length_take, HQ.out]; have := HL.out.1; have := HM.out; omega)
   go_wp2_with fail
   refine HP.out.mono ?_
   rintro e w3 ⟨rfl, ⟨d3, h3⟩, ht⟩
   have H3 := Aside0.mk h3
   have HO3 := Aside0.mk (R_turn HO.out LO.out ht)
   have T3 := Aside0.mk (HT.out.trans ht)
   have S3 := Aside0.mk (show B ≤ w3.heap.size by have := T3.out.below.size; rw [HB.out] at this; exact this)
   clear h3 ht HO HP HS HT
   go_wp2_with (first | ((with_reducible refine gate_builtin (b := .append) (xs := #[.tmp 26, .tmp 28]) rfl ?_); at_builtin; refine Kd.R_append (Kd.int .u8) (w0 := w3) B rfl (.tmp 26) (.tmp 28) 36 5 (.int .u8 0) 1 rfl Tryd.underlying36 infoU8 rfl (by decide) (by omega) _ qs bb [.int .u8 bb] (fun _ => True) (fun _ => False) rfl rfl ?aP (fun _ hk => hk.elim) ?aF ?aO ?aB ?aS ?aL ?_; (case aP => exact rfl); (case aB => exact (by repeat (first | exact Below.refl _ _ | apply below_alloc | apply pw_below_drewN | apply below_drew1))); (case aF => exact (fun _ _ => trivial)); (case aO => exact (by (with_reducible repeat (first | apply Kd.R_alloc | apply Kd.R_drewN | apply Kd.R_drew)); exact HO3.out)); (case aS => exact S3.out); (case aL => have := HQL.out; omega); intro v4 w4 ho hb hg hat; have HO4 := Aside0.mk ho; have HB4 := Aside0.mk hb; clear ho hb hg hat) | fail)
   have HROW := Aside0.mk (show (Kd.int .u8).R 5 w4 B (fun _ => True) v4 (Q.take (i + 1)) from by
    have := HO4.out
    rw [HQD.out, take_snoc l (k + z + 1) m i HLT.out HL.out.2, ← HQD.out, ← HQS.out, ← HBB.out]
    exact this)
   have HHD := Aside0.mk (show ∃ (i' : Int) (f : Bool) (j : Nat) (s : Int) (d : Drv.D), Hd base w4 p (stB 85 i' o false f s 0) d l (T j) ∧ Stand l k z m (i + 1) f j s from
    ⟨_, _, _, _, d3, H3.out.keptB LO.out HB4.out, by have := Stand.next (l := l) (k := k) (z := z) HLT.out HL.out.2; rw [← HSD.out, ← HQD.out, ← HQS.out, ← HBB.out] at this; exact this⟩)
   have HTN := Aside0.mk (show Turn base W w4 (Foot p) from Turn.over T3.out (by rw [HB.out]; exact HB4.out) (by rw [HB.out]; exact HBS.out))
   clear HO4 HB4 HO3 H3 T3 S3
   try go_wp2
   go_roundg (gk - 1)
   case measure => have := HI.out; have := HLT.out; have := HN.out; omega
   case rel => exact ⟨i + 1, _, rfl, by first | rfl | (congr 1), ⟨by have := HI.out; have := HLT.out; have := HN.out; push_cast; omega⟩, HROW, HHD, HTN⟩
  ·have d1 : decide ((i : Int) < N) = false := decide_eq_false (by have := HN.out; omega)
   obtain rfl : i = m := by have := HI.out; have := HN.out; omega
   obtain ⟨i', f, j, s, d, hd, hst⟩ := HS.out
   obtain ⟨rfl, rfl, rfl⟩ : f = true ∧ j = k + z + 1 + i ∧ s = stpL s0 Q := by
    rcases hst with ⟨h, _⟩ | ⟨_, h1, h2, h3⟩
    ·have := HM.out; omega
    ·exact ⟨h1, h2, by rw [h3, ← HSD.out, ← HQD.out, List.take_of_length_le (Nat.le_of_eq HQ.out)]⟩
   have HST := Aside0.mk (stat_hd hd rfl)
   have HOF := Aside0.mk (show (Kd.int .u8).R 5 wr B (fun _ => True) u6 Q from by have := HO.out; rwa [List.take_of_length_le (Nat.le_of_eq HQ.out)] at this)
   clear hlt hd hst HS HO
   obtain ⟨A6, c6, e6, hc6, _⟩ := Kd.R_reads HOF.out
   rw [HQ.out] at e6 hc6
   subst e6
   have HC6 := Aside0.mk hc6
   obtain ⟨i0_, hi0_, _, hsz_, _⟩ := info_parts infoU8
   have hcut := cut_to (P := Tryd.prog) 36 5 .i64 Tryd.underlying36 hi0_ A6 i c6 (n : Int) (by omega) (by have := HM.out; omega) hc6
   rw [Int.toNat_natCast] at hcut
   clear hi0_ hsz_ hc6
   go_wp2_with fail
   refine HST.out.mono ?_
   rintro e w3 ⟨⟨x, rfl, hx2, hx16⟩, h3, ht⟩
   have H3 := Aside0.mk h3
   have T3 := Aside0.mk (HT.out.trans ht)
   have HO3 := Aside0.mk (R_turn HOF.out LO.out ht)
   clear h3 ht HT HOF hx2
   have HCN := Aside0.mk (show (Kd.int .u8).C w3 A6 n (Q.take n) from by
    have := Kd.R_take (m := n) HO3.out (by rw [HQ.out]; have := HM.out; omega)
    obtain ⟨A7, c7, e7, _, h7⟩ := Kd.R_reads this
    injection e7 with ea el ec
    rw [← ea, ← el] at h7
    exact h7)
   obtain ⟨S, hS⟩ : ∃ S, S = stpL s0 Q := ⟨_, rfl⟩
   rw [← hS] at hx16 H3
   have HSS := Aside0.mk hS
   clear hS
   by_cases hs : S = 0
   ·have hx : Go.bits .and .u8 x 16 = 0 := by rw [hx16]; exact if_neg (by show ¬ (bit 85 16 && decide (S ≠ 0)) = true; rw [hs]; decide)
    have HD := Aside0.mk (decide_eq_true hs)
    clear hx16 hs
    go_wp2
    first | go_ret2 | ((try simp only [Exit.inBlock, Exit.then]); refine bodyPost_ret (results_tmp2 rfl _ _ _) rfl ?_)
    exact ⟨⟨A6, c6, by rw [← HSS.out, HD.out]; rfl, by have := HC6.out; have := HM.out; omega, HCN.out⟩, ⟨_, _, by rw [← HSS.out]; exact H3.out⟩, T3.out⟩
   ·have hx : Go.bits .and .u8 x 16 = 16 := by rw [hx16]; exact if_pos (by show (bit 85 16 && decide (S ≠ 0)) = true; rw [decide_eq_true hs]; decide)
    have HD := Aside0.mk (decide_eq_false hs)
    clear hx16 hs
    go_wp2
    first | go_ret2 | ((try simp only [Exit.inBlock, Exit.then]); refine bodyPost_ret (results_tmp2 rfl _ _ _) rfl ?_)
    exact ⟨⟨A6, c6, by rw [← HSS.out, HD.out]; rfl, by have := HC6.out; have := HM.out; omega, HCN.out⟩, ⟨_, _, by rw [← HSS.out]; exact H3.out⟩, T3.out⟩
theorem read_to (base : Nat) (W : World) (p : P) (l : List Int) (k z n : Nat) (i0 o : Int)
  (hput : Calls Tryd.prog 11 #[.pointer (some ⟨p.g, 0, none⟩), .int .u16 16421, .int .u8 5] W fun e W' => e = .returned (.tuple #[]) ∧ (∃ d, Hd base W' p (stB 5 i0 o false false 32768 0) d l (T k)) ∧ Turn base W W' (Foot p))
  (lo : Low p W.heap.size) (hbase : base ≤ W.heap.size) (hz : ∀ q, q < z → rd l ((k + q : Nat) : Int) = 0) (hm : rd l ((k + z : Nat) : Int) ≠ 0) (hz2 : z + 2 ≤ 600) (hn : n ≤ 65536) (hl : k + z + 1 + (n + 2) ≤ l.length)
  (hms : Wave.MS W) (hgm : 0 < base) (hts : Wave.TS W) (hgb : 1 < base) :
  Calls Tryd.prog 37 #[.pointer (some ⟨p.g, 0, none⟩), .int .i64 (n : Int)] W fun e W' =>
   (∃ (A : Option Addr) (c : Nat), e = .returned (.tuple #[.slice A n c, .bool (decide (stpL (stp 32768 (rd l ((k + z : Nat) : Int))) ((l.drop (k + z + 1)).take (n + 2)) = 0))]) ∧ n ≤ c ∧ (Kd.int .u8).C W' A n ((l.drop (k + z + 1)).take n)) ∧
   (∃ i' s' d, Hd base W' p (stB 85 i' o false true s' 0) d l (T (k + z + 1 + (n + 2)))) ∧ Turn base W W' (Foot p) := by
 refine (read_core base W p l _ k z n _ i0 o _ rfl rfl rfl hput lo hbase hz hm hz2 hn hl hms hgm hts hgb).mono ?_
 rintro e W' ⟨⟨A, c, rfl, hc, hC⟩, ⟨i', d, hd⟩, ht⟩
 rw [List.take_take, Nat.min_eq_left (by omega)] at hC
 exact ⟨⟨A, c, rfl, hc, hC⟩, ⟨i', _, d, hd⟩, ht⟩
end Go.Proofs.YtaiaapjlpbhlbaaDoor.Ada

namespace Go.Proofs.YtaiaapjlpbhlbaaDoor.Ada
open Go.RowKit Go.Proofs.YtaiaapjlpbhlbaaDoor.PAdapterReads Go.Proofs.YtaiaapjlpbhlbaaDoor.U Go.Proofs.YtaiaapjlpbhlbaaDoorW.PrintWords Go.Proofs.YtaiaapjlpbhlbaaDoorW.PrintLast Go.Proofs.YtaiaapjlpbhlbaaDoorW.PrintMore
set_option linter.unusedVariables false
set_option linter.unusedSimpArgs false
set_option maxRecDepth 20000
theorem join1_calls (A : Option Addr) (c : Nat) (l : List Int) (W : World) (hC : (Kd.slice 5 (Kd.int .u8)).C W A 1 [l]) (hc : 1 ≤ c) (hy : l.length < 140737488355328) :
  Calls Tryd.prog 36 #[.slice A 1 c] W fun e W' => ∃ v : Value, e = .returned v ∧ Kd.R (Kd.int .u8) 5 W' W.heap.size (fun _ => True) v l ∧ Below W.heap.size W W' := by
 obtain ⟨k, hk⟩ := PureR.join_ev [l] (show 1 < 1000000000 by decide) (by simpa using hy)
 have h := hk k (Nat.le_refl _)
 simp only [List.flatten_cons, List.flatten_nil, List.append_nil] at h
 exact kotatsuref01_Join.callsR k A c [l] l W hC hc h
theorem join2_calls (A : Option Addr) (c : Nat) (l m : List Int) (W : World) (hC : (Kd.slice 5 (Kd.int .u8)).C W A 2 [l, m]) (hc : 2 ≤ c) (hy : (l ++ m).length < 140737488355328) :
  Calls Tryd.prog 36 #[.slice A 2 c] W fun e W' => ∃ v : Value, e = .returned v ∧ Kd.R (Kd.int .u8) 5 W' W.heap.size (fun _ => True) v (l ++ m) ∧ Below W.heap.size W W' := by
 obtain ⟨k, hk⟩ := PureR.join_ev [l, m] (show 2 < 1000000000 by decide) (by simpa using hy)
 have h := hk k (Nat.le_refl _)
 simp only [List.flatten_cons, List.flatten_nil, List.append_nil] at h
 exact kotatsuref01_Join.callsR k A c [l, m] (l ++ m) W hC hc h
theorem same_calls (A : Option Addr) (c n : Nat) (l : List Int) (A' : Option Addr) (c' n' : Nat) (l' : List Int) (W : World) (hn : l.length = n) (hn' : l'.length = n') (hC : (Kd.int .u8).C W A l.length l) (hc : l.length ≤ c) (hC' : (Kd.int .u8).C W A' l'.length l') (hc' : l'.length ≤ c') (hy : l.length ≤ 140737488355328) :
  Calls Tryd.prog 23 #[.slice A n c, .slice A' n' c'] W fun e W' => e = .returned (.bool (decide (l = l'))) ∧ ∃ n, W' = W.drewN n := by
 subst hn
 subst hn'
 obtain ⟨k, hk⟩ := PureR.same_ev l l' hy
 refine (kotatsuref01_Same.calls k A c l A' c' l' _ W hC hc hC' hc' (hk k (Nat.le_refl _))).mono ?_
 rintro e W' ⟨rfl, ⟨m, rfl⟩⟩
 exact ⟨rfl, m, rfl⟩
theorem C_one (W : World) (A : Option Addr) (c : Nat) (l : List Int) (hC : (Kd.int .u8).C W A l.length l) (hc : l.length ≤ c) : (Kd.slice 5 (Kd.int .u8)).C (W.alloc (.cells #[.slice A l.length c] 36 (0, 0))) (some ⟨W.heap.size, 0, none⟩) 1 [l] := by
 have h : Drive.At (W.alloc (.cells #[.slice A l.length c] 36 (0, 0))) W.heap.size 36 #[.slice A l.length c] := heap_alloc_new W _
 refine ⟨rfl, by decide, fun _ => ⟨_, rfl, fun j p hj => ?_⟩⟩
 cases j with
 | zero =>
  cases hj
  refine ⟨[.slice A l.length c], rfl, ⟨A, c, rfl, hc, Kd.C_below hC (below_alloc (Below.refl _ _) _)⟩, fun i u hu => ?_⟩
  cases i with
  | zero => cases hu; exact h.cell 0
  | succ i => cases hu
 | succ j => cases hj
theorem C_pair (W : World) (A : Option Addr) (c n : Nat) (l : List Int) (A' : Option Addr) (c' n' : Nat) (l' : List Int) (hn : l.length = n) (hn' : l'.length = n') (hC : (Kd.int .u8).C W A n l) (hc : n ≤ c) (hC' : (Kd.int .u8).C W A' n' l') (hc' : n' ≤ c') : (Kd.slice 5 (Kd.int .u8)).C (W.alloc (.cells #[.slice A n c, .slice A' n' c'] 36 (0, 0))) (some ⟨W.heap.size, 0, none⟩) 2 [l, l'] := by
 subst hn
 subst hn'
 have h : Drive.At (W.alloc (.cells #[.slice A l.length c, .slice A' l'.length c'] 36 (0, 0))) W.heap.size 36 #[.slice A l.length c, .slice A' l'.length c'] := heap_alloc_new W _
 refine ⟨rfl, by decide, fun _ => ⟨_, rfl, fun j p hj => ?_⟩⟩
 rcases j with _ | _ | j
 ·cases hj
  refine ⟨[.slice A l.length c], rfl, ⟨A, c, rfl, hc, Kd.C_below hC (below_alloc (Below.refl _ _) _)⟩, fun i u hu => ?_⟩
  cases i with
  | zero => cases hu; exact h.cell 0
  | succ i => cases hu
 ·cases hj
  refine ⟨[.slice A' l'.length c'], rfl, ⟨A', c', rfl, hc', Kd.C_below hC' (below_alloc (Below.refl _ _) _)⟩, fun i u hu => ?_⟩
  cases i with
  | zero => cases hu; exact h.cell 1
  | succ i => cases hu
 ·cases hj
theorem C_byte (W : World) (b : Int) : (Kd.int .u8).C (W.alloc (.cells #[.int .u8 b] 5 (0, 0))) (some ⟨W.heap.size, 0, none⟩) 1 [b] := by
 have hA : Drive.At (W.alloc (.cells #[.int .u8 b] 5 (0, 0))) W.heap.size 5 #[.int .u8 b] := heap_alloc_new W _
 refine Kd.C_of_reads (d := (0 : Int)) ⟨rfl, by decide, fun _ => ⟨_, rfl, fun j hj => ?_⟩⟩
 obtain rfl : j = 0 := by omega
 exact hA.cell 0
theorem small_calls (A : Option Addr) (c : Nat) (L : List (List Nat)) (hL : ∀ x ∈ L, small x) (hlen : L.length ≤ 9223372036854775807) (hll : ∀ x ∈ L, x.length ≤ 9223372036854775807) (n : Nat) (hn : n < 256) (W : World) (hC : (Kd.slice 5 (Kd.int .u8)).C W A (L.map cst).length (L.map cst)) (hc : (L.map cst).length ≤ c) :
  ∃ l : List PureR.Blk, PureR.Few l ∧ Calls Tryd.prog 35 #[.slice A (L.map cst).length c, .int .u8 (n : Int)] W fun e W' => ∃ (A1 : Option Addr) (c1 : Nat) (A2 : Option Addr) (c2 : Nat), e = .returned (.tuple #[.slice A1 l.length c1, .slice A2 (PureR.sideR l).length c2]) ∧ l.length ≤ c1 ∧ Kd.C k67 W' A1 l.length (PureR.bs43 l) ∧ (PureR.sideR l).length ≤ c2 ∧ Kd.C (Kd.int .u8) W' A2 (PureR.sideR l).length (cst (PureR.sideR l)) ∧ Below W.heap.size W W' := by
 obtain ⟨l, hf, k, hk⟩ := PureR.small_ev L hL hlen hll n hn
 refine ⟨l, hf, (kotatsulaw18_small.calls k A c _ _ _ _ W hC hc (hk k (Nat.le_refl _))).mono ?_⟩
 rintro e W' ⟨v0, v1, rfl, h0, h1, hb⟩
 obtain ⟨A1, c1, rfl, l1, g1⟩ := Kd.N_reads h0
 obtain ⟨A2, c2, rfl, l2, g2⟩ := Kd.Q_reads h1
 rw [PureR.bs43_len] at l1 g1
 rw [cst_length] at l2 g2
 exact ⟨A1, c1, A2, c2, by rw [PureR.bs43_len, cst_length], l1, g1, l2, g2, hb⟩
theorem cst_rd (l : List Nat) (i : Nat) : rd (cst l) (i : Int) = ((l.getD i 0 : Nat) : Int) := rd_cst l i
theorem cst_set (l : List Nat) (i x : Nat) : (cst l).set i (x : Int) = cst (l.set i x) := by unfold cst; rw [List.map_set]
theorem small_u8 {l : List Nat} (h : small l) (j : Int) : U8 (rd (cst l) j) := by
 unfold rd
 rw [List.getD_eq_getElem?_getD]
 by_cases hj : j.toNat < (cst l).length
 ·rw [List.getElem?_eq_getElem hj]
  have : (cst l)[j.toNat] ∈ cst l := List.getElem_mem hj
  obtain ⟨n, hn, e⟩ := List.mem_map.1 this
  have := h n hn
  show U8 _
  rw [Option.getD_some, ← e]
  exact ⟨by omega, by omega⟩
 ·rw [List.getElem?_eq_none (by omega)]; exact ⟨by decide, by decide⟩
theorem side_len {l : List PureR.Blk} (hf : PureR.Few l) : 200 < (PureR.sideR l).length ∧ (PureR.sideR l).length ≤ 1400 := by
 obtain ⟨b, r, e, h⟩ := hf.one
 have h1 := PureR.bodyG_len l
 have h2 := hf.sz
 have h3 := hf.le
 have h4 : PureR.sizeN l = 1 + b.2.length + PureR.sizeN r := by rw [e]; simp [PureR.sizeN]
 have h5 : l.length = r.length + 1 := by rw [e]; rfl
 have h6 : (PureR.sideR l).length = 40 + (PureR.bodyG l).length := by unfold PureR.sideR; rw [List.length_append, List.length_replicate]
 omega
theorem side_small {l : List PureR.Blk} (hf : PureR.Few l) : small (PureR.sideR l) := by
 unfold PureR.sideR
 exact small_append (fun x hx => by rw [List.eq_of_mem_replicate hx]; decide) (PureR.small_bodyG hf.sm)
theorem i64w {x : Int} (h : 0 ≤ x ∧ x < 65536) : IntKind.i64.wrap x = x := by rw [IntKind.wrap_i64]; omega
theorem w16 {x : Int} (h : 0 ≤ x ∧ x < 65536) : wrap64 x = x := Wave.wr64 (by omega) (by omega)
theorem m55 {x : Int} (h : 0 ≤ x) : 0 ≤ x % 55 ∧ x % 55 < 55 := ⟨by omega, by omega⟩
theorem w1n (i : Nat) (h : i < 1000000) : wrap64 ((i : Int) + 1) = ((i + 1 : Nat) : Int) := by rw [Wave.wr64 (by omega) (by omega)]; rfl
theorem w1a (n : Nat) (h : n ≤ 55) : wrap64 (1 + (n : Int)) = ((1 + n : Nat) : Int) := by rw [Wave.wr64 (by omega) (by omega)]; omega
theorem w4242 (a : Nat) (h : a < 55) : wrap64 (42 + (a : Int) - 42) = (a : Int) := by rw [Wave.wr64 (by omega) (by omega)]; omega
theorem w42 (a : Int) (h : 0 ≤ a ∧ a < 55) : wrap64 (42 + a) = 42 + a := Wave.wr64 (by omega) (by omega)
/-- the state of one who has read i blocks -/
def RdSt (base : Nat) (W : World) (p : P) (l : List PureR.Blk) (S : List Int) (i : Nat) : Prop := (i = 0 ∧ Is base W p aI (Drive.back { d0 with side := S }) Wave.v0) ∨ (0 < i ∧ ∃ i' s' d, Hd base W p (stB 85 i' 0 false true s' 0) d S (T (PureR.kpos l i)))
theorem cmd5 (a : A) (i o : Int) (h : a.from_ = 0 ∧ a.count = 0 ∧ a.on = false ∧ a.rep = false ∧ a.exp = false ∧ a.opn = 1 ∧ a.inn = i ∧ a.out = o ∧ a.wire = 0 ∧ a.asks = false) : cmdA a 5 = stB 5 i o false false 32768 0 := by
 unfold cmdA
 rw [if_neg (by decide)]
 obtain ⟨h1, h2, h3, h4, h5, h6, h7, h8, h9, h10⟩ := h
 unfold stB
 rw [h1, h2, h3, h4, h5, h6, h7, h8, h9, h10]
theorem below_to {B : Nat} {A C D : World} (hb : Below B A C) (hB : B ≤ C.heap.size) (h : Below C.heap.size C D) : Below B A D := hb.trans (h.mono hB)
theorem ahead_of {S : List Nat} {k z : Nat} {q rest : List Nat} (h : S.drop k = List.replicate z 0 ++ 128 :: (q ++ rest)) :
  (∀ j, j < z → rd (cst S) ((k + j : Nat) : Int) = 0) ∧ rd (cst S) ((k + z : Nat) : Int) = 128 ∧ ((cst S).drop (k + z + 1)).take q.length = cst q ∧ k + z + 1 + q.length ≤ S.length := by
 have hlen := congrArg List.length h
 rw [List.length_drop, List.length_append, List.length_replicate, List.length_cons, List.length_append] at hlen
 have hg : ∀ j, S.getD (k + j) 0 = (List.replicate z 0 ++ 128 :: (q ++ rest)).getD j 0 := by
  intro j
  rw [← h, List.getD_eq_getElem?_getD, List.getD_eq_getElem?_getD, List.getElem?_drop]
 refine ⟨fun j hj => ?_, ?_, ?_, by omega⟩
 ·rw [cst_rd, hg, List.getD_eq_getElem?_getD, List.getElem?_append_left (by simpa using hj)]
  simp [List.getElem?_replicate, hj]
 ·rw [cst_rd, hg, List.getD_eq_getElem?_getD, List.getElem?_append_right (by simp)]
  simp
 ·rw [cst_drop, cst_take]
  congr 1
  rw [show k + z + 1 = k + (z + 1) by omega, ← List.drop_drop, h]
  rw [show List.replicate z 0 ++ 128 :: (q ++ rest) = (List.replicate z 0 ++ [128]) ++ (q ++ rest) by simp]
  rw [List.drop_append_of_le_length (by simp), List.drop_of_length_le (by simp), List.nil_append, List.take_append_of_le_length (Nat.le_refl _), List.take_of_length_le (Nat.le_refl _)]
theorem stpL_cst (q : List Nat) (s : Nat) : stpL (s : Int) (cst q) = ((Crc.gfeed s (bitsL q) : Nat) : Int) := by
 induction q generalizing s with
 | nil => rfl
 | cons b q ih =>
  rw [bitsL_cons, Crc.gfeed_append]
  exact ih _
theorem stp_sum (q : List Nat) (hq : small q) : stpL (stp 32768 128) (cst q) = ((Crc.gfeed 32768 (bitsL (128 :: q)) : Nat) : Int) := by
 rw [bitsL_cons, Crc.gfeed_append]
 exact stpL_cst q _
theorem rows_of (l : List (List Int)) (h : ∀ x ∈ l, x.length ≤ 9223372036854775807 ∧ ∀ n ∈ x, (Lit.int .u8 n).wf = true) : ∃ L : List (List Nat), l = L.map cst ∧ (∀ x ∈ L, small x) ∧ ∀ x ∈ L, x.length ≤ 9223372036854775807 := by
 induction l with
 | nil => exact ⟨[], rfl, (fun x hx => by cases hx), (fun x hx => by cases hx)⟩
 | cons x l ih =>
  obtain ⟨L, hL, h1, h2⟩ := ih (fun y hy => h y (List.mem_cons_of_mem _ hy))
  obtain ⟨hx1, hx2⟩ := h x List.mem_cons_self
  obtain ⟨ns, hns, hs⟩ := cst_of x hx2
  refine ⟨ns :: L, by rw [hL, hns]; rfl, fun y hy => ?_, fun y hy => ?_⟩
  ·rcases List.mem_cons.1 hy with rfl | hy
   ·exact hs
   ·exact h1 y hy
  ·rcases List.mem_cons.1 hy with rfl | hy
   ·rw [← cst_length, ← hns]; exact hx1
   ·exact h2 y hy
end Go.Proofs.YtaiaapjlpbhlbaaDoor.Ada

namespace Go.Proofs.YtaiaapjlpbhlbaaDoor.Ada
open Go.RowKit Go.Proofs.YtaiaapjlpbhlbaaDoor.PAdapterReads Go.Proofs.YtaiaapjlpbhlbaaDoor.U Go.Proofs.YtaiaapjlpbhlbaaDoorW.PrintWords Go.Proofs.YtaiaapjlpbhlbaaDoorW.PrintLast Go.Proofs.YtaiaapjlpbhlbaaDoorW.PrintMore
set_option linter.unusedVariables false
set_option linter.unusedSimpArgs false
set_option maxRecDepth 20000
theorem cmdOff (c i o s t b : Int) (k f : Bool) (h : ¬ (bit b 64 = true ∧ bit b 2 = false)) : cmdA (stB c i o k f s t) b = stB b i o k false 32768 0 := by
 unfold cmdA; rw [if_neg h]; rfl
theorem cmdOn (c i o s t b : Int) (k f : Bool) (h : bit b 64 = true ∧ bit b 2 = false) : cmdA (stB c i o k f s t) b = stB b i o k f s t := by
 unfold cmdA; rw [if_pos h]; rfl
theorem ps5 (i o s t b : Int) (k f : Bool) : psA (stB 5 i o k f s t) b = stB 5 i o k f s t := by
 unfold psA readA
 rw [if_neg (by show ¬ bit 5 2 = true; decide), if_pos (by show bit 5 4 = true; decide), if_pos (by show bit 5 64 = false; decide)]
theorem psL5 (i o s t : Int) (k f : Bool) (l : List Int) (n : Nat) : psL (stB 5 i o k f s t) l n = l := by
 unfold psL
 rw [if_neg (by show ¬ bit 5 2 = true; decide), if_pos (by show bit 5 4 = true; decide)]
theorem ps1 (i o s t b : Int) (k f : Bool) : psA (stB 1 i o k f s t) b = stB 1 i o true f s t := by
 unfold psA nextA
 rw [if_neg (by show ¬ bit 1 2 = true; decide), if_neg (by show ¬ bit 1 4 = true; decide), if_pos (by show bit 1 64 = false; decide)]
 rfl
theorem psL1 (i o s t : Int) (k f : Bool) (l : List Int) (n : Nat) : psL (stB 1 i o k f s t) l n = l.set n 0 := by
 unfold psL nextB
 rw [if_neg (by show ¬ bit 1 2 = true; decide), if_neg (by show ¬ bit 1 4 = true; decide), if_pos (by show bit 1 64 = false; decide)]
theorem ps65 (i o s t b : Int) (k f : Bool) : psA (stB 65 i o k f s t) b = stB 65 i o true f (stp s o) 0 := by
 unfold psA nextA
 rw [if_neg (by show ¬ bit 65 2 = true; decide), if_neg (by show ¬ bit 65 4 = true; decide), if_neg (by show ¬ bit 65 64 = false; decide), if_pos (by show bit 65 16 = false; decide)]
 rfl
theorem psL65 (i o s t : Int) (k f : Bool) (l : List Int) (n : Nat) : psL (stB 65 i o k f s t) l n = l.set n o := by
 unfold psL nextB
 rw [if_neg (by show ¬ bit 65 2 = true; decide), if_neg (by show ¬ bit 65 4 = true; decide), if_neg (by show ¬ bit 65 64 = false; decide), if_pos (by show bit 65 16 = false; decide)]
 rfl
theorem ps81a (i o s b : Int) (k f : Bool) : psA (stB 81 i o k f s 0) b = stB 81 i o true f (stp (stp s 0) 0) 1 := by
 unfold psA nextA
 rw [if_neg (by show ¬ bit 81 2 = true; decide), if_neg (by show ¬ bit 81 4 = true; decide), if_neg (by show ¬ bit 81 64 = false; decide), if_neg (by show ¬ bit 81 16 = false; decide)]
 rfl
theorem psL81a (i o s : Int) (k f : Bool) (l : List Int) (n : Nat) : psL (stB 81 i o k f s 0) l n = l.set n (stp (stp s 0) 0 % 256) := by
 unfold psL nextB
 rw [if_neg (by show ¬ bit 81 2 = true; decide), if_neg (by show ¬ bit 81 4 = true; decide), if_neg (by show ¬ bit 81 64 = false; decide), if_neg (by show ¬ bit 81 16 = false; decide)]
 rfl
theorem ps81b (i o s b : Int) (k f : Bool) : psA (stB 81 i o k f s 1) b = stB 81 i o true f s 2 := by
 unfold psA nextA
 rw [if_neg (by show ¬ bit 81 2 = true; decide), if_neg (by show ¬ bit 81 4 = true; decide), if_neg (by show ¬ bit 81 64 = false; decide), if_neg (by show ¬ bit 81 16 = false; decide)]
 rfl
theorem psL81b (i o s : Int) (k f : Bool) (l : List Int) (n : Nat) : psL (stB 81 i o k f s 1) l n = l.set n (s / 256) := by
 unfold psL nextB
 rw [if_neg (by show ¬ bit 81 2 = true; decide), if_neg (by show ¬ bit 81 4 = true; decide), if_neg (by show ¬ bit 81 64 = false; decide), if_neg (by show ¬ bit 81 16 = false; decide)]
 rfl
/-- a side on which a block is being laid at the place at_ (all noughts till there) -/
def layN (S : List Nat) (at_ : Nat) (q : List Nat) : List Nat := List.replicate at_ 0 ++ (q ++ S.drop (at_ + q.length))
theorem layN_len (S : List Nat) (at_ : Nat) (q : List Nat) (h : at_ + q.length ≤ S.length) : (layN S at_ q).length = S.length := by
 unfold layN; rw [List.length_append, List.length_append, List.length_replicate, List.length_drop]; omega
theorem layN_nil (S : List Nat) (at_ : Nat) (h : S.take at_ = List.replicate at_ 0) : layN S at_ [] = S := by
 unfold layN; rw [← h, List.nil_append, List.length_nil, Nat.add_zero, List.take_append_drop]
theorem layN_set (S : List Nat) (at_ : Nat) (q : List Nat) (b : Nat) (h : at_ + q.length < S.length) : (layN S at_ q).set (at_ + q.length) b = layN S at_ (q ++ [b]) := by
 unfold layN
 rw [List.set_append_right _ _ (by rw [List.length_replicate]; omega), List.length_replicate, Nat.add_sub_cancel_left, List.set_append_right _ _ (Nat.le_refl _), Nat.sub_self, List.drop_eq_getElem_cons h, List.set_cons_zero, List.length_append, List.length_singleton, ← Nat.add_assoc]
 simp
theorem layN_small {S : List Nat} (hS : small S) (at_ : Nat) {q : List Nat} (hq : small q) : small (layN S at_ q) := small_append (fun x hx => by rw [List.eq_of_mem_replicate hx]; decide) (small_append hq (small_drop hS _))
theorem set_same (l : List Nat) (k : Nat) (h : l.getD k 0 = 0) : l.set k 0 = l := by
 apply List.ext_getElem?
 intro j
 rw [List.getElem?_set]
 split
 ·rename_i e; subst e
  split
  ·rename_i hk
   rw [List.getD_eq_getElem?_getD, List.getElem?_eq_getElem hk, Option.getD_some] at h
   rw [List.getElem?_eq_getElem hk, h]
  ·rename_i hk; rw [List.getElem?_eq_none (by omega)]
 ·rfl
theorem getD_zeros {S : List Nat} {n k : Nat} (h : S.take n = List.replicate n 0) (hk : k < n) : S.getD k 0 = 0 := by
 have e : (S.take n).getD k 0 = S.getD k 0 := by rw [List.getD_eq_getElem?_getD, List.getD_eq_getElem?_getD, List.getElem?_take, if_pos hk]
 rw [← e, h, List.getD_eq_getElem?_getD, List.getElem?_replicate, if_pos hk]; rfl
/-- the block's bytes, with its sum -/
def sumsN (P : List Nat) : List Nat := P ++ [shortN P % 256, shortN P / 256]
theorem short_stp (P : List Nat) : stp (stp (stpL 32768 (cst P)) 0) 0 = ((shortN P : Nat) : Int) := by
 have h1 := stpL_cst P 32768
 have e : stpL 32768 (cst P) = ((Crc.gfeed 32768 (bitsL P) : Nat) : Int) := h1
 rw [e]
 unfold shortN
 rw [bitsL_append, Crc.gfeed_append]
 show stp (stp _ 0) 0 = _
 unfold stp
 rw [Int.toNat_natCast, Int.toNat_natCast]
 rw [show bitsL [0, 0] = Crc.bitsOf 8 0 ++ Crc.bitsOf 8 0 from by simp [bitsL], Crc.gfeed_append]
 rfl
theorem passes_as {base : Nat} {W : World} {p : P} {a a' : A} {S S' : List Int} {k : Nat} (h : ∃ d, Hd base W p a d S (T k)) (hk : k < S.length) (hts : Wave.TS W) (hgb : 1 < base) (ha : psA a (rd S k) = a') (hS : psL a S k = S') :
  Calls Tryd.prog 32 #[.pointer (some ⟨p.g, 0, none⟩)] W fun e W' => e = .returned (.bool true) ∧ (∃ d, Hd base W' p a' d S' (T (k + 1))) ∧ Turn base W W' (Foot p) := by
 have := passes_to base W p a S k h hk hts hgb
 rwa [ha, hS] at this
theorem put25_as {base : Nat} {W : World} {p : P} {a a' : A} {S : List Int} {t : Int} (h : ∃ d, Hd base W p a d S t) (b : Int) (hb : U8 b) (h1 : bit b 1 = true) (hm : Wave.MS W) (ha : cmdA a b = a') :
  Calls Tryd.prog 11 #[.pointer (some ⟨p.g, 0, none⟩), .int .u16 16421, .int .u8 b] W fun e W' => e = .returned (.tuple #[]) ∧ (∃ d, Hd base W' p a' d S t) ∧ Turn base W W' (Foot p) := by
 obtain ⟨d, h⟩ := h
 refine (put25_hd h b hb h1 hm).mono ?_
 rintro e W' ⟨rfl, h, ht⟩
 rw [ha] at h
 exact ⟨rfl, ⟨d, h⟩, ht⟩
theorem put24_as {base : Nat} {W : World} {p : P} {i o s t : Int} {k f : Bool} {S : List Int} {tm : Int} (h : ∃ d, Hd base W p (stB 65 i o k f s t) d S tm) (b : Int) (hb : U8 b) (hm : Wave.MS W) :
  Calls Tryd.prog 11 #[.pointer (some ⟨p.g, 0, none⟩), .int .u16 16420, .int .u8 b] W fun e W' => e = .returned (.tuple #[]) ∧ (∃ d, Hd base W' p (stB 65 i b false f s t) d S tm) ∧ Turn base W W' (Foot p) := by
 obtain ⟨d, h⟩ := h
 refine (put24_hd h b hb hm).mono ?_
 rintro e W' ⟨rfl, h, ht⟩
 exact ⟨rfl, ⟨d, h⟩, ht⟩
theorem at_as {base : Nat} {W : World} {p : P} {a : A} {S : List Int} {k : Nat} (h : ∃ d, Hd base W p a d S (T k)) (hk : k < S.length) (h0 : 0 < k) : 
  (Calls Tryd.prog 20 #[.pointer (some ⟨p.g, 0, none⟩)] W fun e W' => e = .returned (.pointer (some ⟨p.gd, 0, none⟩)) ∧ W = W') ∧
  Calls Tryd.prog 38 #[.pointer (some ⟨p.gd, 0, none⟩)] W fun e W' => e = .returned (.int .i64 (k : Int)) ∧ W = W' := by
 obtain ⟨d, h⟩ := h
 obtain ⟨u, hi, hu⟩ := h.is_
 refine ⟨drive_calls base W p a d u hi, ?_⟩
 have := Drive.at_calls base p.gd p.v d W hi.dr
 have hr := h.ready
 have e0 : T k = T k + ((0 : Nat) : Int) := by simp
 have hg : Drv.goneR S.length (T k) = true := by
  unfold Drv.goneR
  rw [e0, T_small k S.length 0 hk (Nat.zero_le _)]
  apply decide_eq_true
  unfold T
  rw [if_neg (by omega)]; omega
 rw [hr.2, if_pos hg, e0, T_stays k S.length 0 hk (Nat.zero_le _) (by rw [← e0]; exact hg)] at this
 exact this
theorem side_as {base : Nat} {W : World} {p : P} {a : A} {S : List Int} {t : Int} (h : ∃ d, Hd base W p a d S t) :
  (Calls Tryd.prog 20 #[.pointer (some ⟨p.g, 0, none⟩)] W fun e W' => e = .returned (.pointer (some ⟨p.gd, 0, none⟩)) ∧ W = W') ∧
  Calls Tryd.prog 34 #[.pointer (some ⟨p.gd, 0, none⟩)] W fun e W' => ∃ v1 : Value, e = .returned v1 ∧ Kd.R (Kd.int .u8) 5 W' W.heap.size (fun _ => True) v1 S ∧ Below W.heap.size W W' := by
 obtain ⟨d, h⟩ := h
 obtain ⟨u, hi, hu⟩ := h.is_
 refine ⟨drive_calls base W p a d u hi, ?_⟩
 have := Drive.side_calls base p.gd p.v d W hi.dr
 rwa [h.runs.2.1] at this
theorem stat_as {base : Nat} {W : World} {p : P} {i o s t : Int} {f : Bool} {S : List Int} {tm : Int} (h : ∃ d, Hd base W p (stB 65 i o true f s t) d S tm) :
  Calls Tryd.prog 14 #[.pointer (some ⟨p.g, 0, none⟩), .int .u16 16432] W fun e W' => (∃ x : Int, e = .returned (.tuple #[.int .u8 x, .bool true]) ∧ Go.bits .and .u8 x 2 = 2) ∧ (∃ d, Hd base W' p (stB 65 i o false f s t) d S tm) ∧ Turn base W W' (Foot p) := by
 obtain ⟨d, h⟩ := h
 refine (stat_hd h rfl).mono ?_
 rintro e W' ⟨⟨x, rfl, hx, _⟩, h, ht⟩
 exact ⟨⟨x, rfl, hx⟩, ⟨d, h⟩, ht⟩
end Go.Proofs.YtaiaapjlpbhlbaaDoor.Ada

namespace Go.Proofs.YtaiaapjlpbhlbaaDoor.Ada
open Go.RowKit Go.Proofs.YtaiaapjlpbhlbaaDoor.PAdapterReads Go.Proofs.YtaiaapjlpbhlbaaDoor.U Go.Proofs.YtaiaapjlpbhlbaaDoorW.PrintWords Go.Proofs.YtaiaapjlpbhlbaaDoorW.PrintLast Go.Proofs.YtaiaapjlpbhlbaaDoorW.PrintMore
set_option linter.unusedVariables false
set_option linter.unusedSimpArgs false
set_option maxRecDepth 20000
theorem cutr_calls (A : Option Addr) (c : Nat) (l : List Int) (m : Nat) (W : World) (hm : m < 100000) (hC : (Kd.int .u8).C W A l.length l) (hc : l.length ≤ c) (hy : l.length ≤ 9223372036854775807) :
  Calls Tryd.prog 19 #[.slice A l.length c, .int .i64 (m : Int)] W fun e W' => ∃ v : Value, e = .returned v ∧ Kd.R (Kd.int .u8) 5 W' W.heap.size (fun _ => True) v (l.take m) ∧ Below W.heap.size W W' := by
 obtain ⟨k, hk⟩ := PureR.cut_ev l m hm (by omega)
 exact kotatsuref01_Cut.callsR k A c l (m : Int) _ W hC hc (hk k (Nat.le_refl _))
theorem C_two8 (W : World) (a b : Int) : (Kd.int .u8).C (W.alloc (.cells #[.int .u8 a, .int .u8 b] 5 (0, 0))) (some ⟨W.heap.size, 0, none⟩) 2 [a, b] := by
 have hA : Drive.At (W.alloc (.cells #[.int .u8 a, .int .u8 b] 5 (0, 0))) W.heap.size 5 #[.int .u8 a, .int .u8 b] := heap_alloc_new W _
 refine Kd.C_of_reads (d := (0 : Int)) ⟨rfl, by decide, fun _ => ⟨_, rfl, fun j hj => ?_⟩⟩
 rcases (show j = 0 ∨ j = 1 by omega) with rfl | rfl
 ·exact hA.cell 0
 ·exact hA.cell 1
theorem t30 {g : Int} (h : 0 ≤ g ∧ g < 256) : g.tmod 30 = g % 30 ∧ 0 ≤ g % 30 ∧ g % 30 < 30 := ⟨Int.tmod_eq_emod_of_nonneg h.1, by omega, by omega⟩
theorem u8w {x : Int} (h : 0 ≤ x ∧ x < 256) : IntKind.u8.wrap x = x := by rw [IntKind.wrap_u8]; omega
/-- the side that is laid under the head: noughts ahead and behind -/
def sideW (sd : List Nat) : List Nat := List.replicate 60 0 ++ (sd ++ List.replicate 300 0)
theorem sideW_len (sd : List Nat) : (sideW sd).length = 360 + sd.length := by simp [sideW]; omega
theorem sideW_zeros (sd : List Nat) (n : Nat) (h : n ≤ 60) : (sideW sd).take n = List.replicate n 0 := by
 unfold sideW
 rw [List.take_append_of_le_length (by rw [List.length_replicate]; exact h), List.take_replicate, Nat.min_eq_left h]
theorem u8n (i : Nat) (h : i < 100) : IntKind.u8.wrap ((i : Int) + 1) = ((i + 1 : Nat) : Int) := by rw [IntKind.wrap_u8]; omega
theorem w20 (g : Nat) (h : g < 30) : wrap64 (20 + (g : Int)) = ((20 + g : Nat) : Int) := by rw [Wave.wr64 (by omega) (by omega)]; omega
theorem idx_facts {gI AT : Int} {g at_ : Nat} (h : gI = (g : Int)) (hg : g < 30) (ha : at_ = 20 + g) (hA : AT = (at_ : Int)) : wrap64 gI = gI ∧ IntKind.i64.wrap gI = gI ∧ wrap64 (20 + gI) = AT := by
 refine ⟨Wave.wr64 (by omega) (by omega), by rw [IntKind.wrap_i64]; omega, by rw [Wave.wr64 (by omega) (by omega)]; omega⟩
theorem aef {AT AE AF : Int} {at_ j : Nat} (hA : AT = (at_ : Int)) (hE : AE = ((at_ + j : Nat) : Int)) (hF : AF = ((at_ + (j + 2) : Nat) : Int)) (h : at_ + j < 1000) : wrap64 (AT + (j : Int)) = AE ∧ IntKind.i64.wrap (AT + (j : Int)) = AE ∧ wrap64 (AE + 2) = AF ∧ IntKind.i64.wrap (AE + 2) = AF := by
 refine ⟨by rw [Wave.wr64 (by omega) (by omega)]; omega, by rw [IntKind.wrap_i64]; omega, by rw [Wave.wr64 (by omega) (by omega)]; omega, by rw [IntKind.wrap_i64]; omega⟩
theorem wjn {j nd : Nat} {NR : Int} (h : j = nd + 2) (hj : j ≤ 32) (hN : NR = ((1 + nd : Nat) : Int)) : wrap64 ((j : Int) - 1) = NR := by rw [Wave.wr64 (by omega) (by omega)]; omega
theorem zeros_c (n : Nat) : List.replicate n (0 : Int) = cst (List.replicate n 0) := by unfold cst; rw [List.map_replicate]; rfl
theorem C_map {W : World} {A : Option Addr} {m : Nat} {xs : List Int} (h : (Kd.int .u8).C W A xs.length xs) (e : xs.length = m) : (Kd.int .u8).C W A m xs := by subst e; exact h
theorem to_cut {A : Option Addr} {n c : Nat} (b : Nat) (hi : Int) (hhi : hi = (b : Int)) (h2 : b ≤ n) (hc : n ≤ c) :
  (∀ W : World, (Instr.slice 36 (.slice A n c) none (some (.int .i64 hi)) none).run Tryd.prog W = .ok (.slice A b c) W) ∧ ∀ (W : World) (xs : List Nat), xs.length = n → (Kd.int .u8).C W A n (cst xs) → (Kd.int .u8).C W A b (cst (xs.take b)) := by
 obtain ⟨i0, hi0, _, hsz, _⟩ := info_parts infoU8
 have h := cut_to (P := Tryd.prog) 36 5 .i64 Tryd.underlying36 hi0 A n c hi (by omega) (by omega) hc
 rw [hhi, Int.toNat_natCast] at h
 refine ⟨fun W => by rw [hhi]; exact h W, fun W xs hx hC => ?_⟩
 subst hx
 have h1 := Kd.C_take (m := b) (by rw [cst_length]; exact hC) (by rw [cst_length]; exact h2)
 rw [cst_take] at h1
 exact C_map h1 (by rw [cst_length, List.length_take]; omega)
theorem from_cut {A : Option Addr} {n c : Nat} (a : Nat) (lo : Int) (hlo : lo = (a : Int)) (h2 : a ≤ n) (hc : n ≤ c) :
  ∃ A' c', n - a ≤ c' ∧ (∀ W : World, (Instr.slice 36 (.slice A n c) (some (.int .i64 lo)) none none).run Tryd.prog W = .ok (.slice A' (n - a) c') W) ∧ ∀ (W : World) (xs : List Nat), xs.length = n → (Kd.int .u8).C W A n (cst xs) → (Kd.int .u8).C W A' (n - a) (cst (xs.drop a)) := by
 obtain ⟨i0, hi0, _, hsz, _⟩ := info_parts infoU8
 have h := cut_from (P := Tryd.prog) 36 5 .i64 Tryd.underlying36 hi0 1 hsz A n c lo (by omega) (by omega)
 rw [hlo, Int.toNat_natCast] at h
 refine ⟨_, c - a, by omega, fun W => by rw [hlo]; exact h W, fun W xs hx hC => ?_⟩
 subst hx
 have h1 := Kd.C_drop (m := a) (c := c) (k := Kd.int .u8) (by rw [cst_length]; exact hC) (by rw [cst_length]; exact h2) (by rw [cst_length]; exact hc)
 rw [cst_drop] at h1
 exact C_map h1 (by rw [cst_length, List.length_drop])
theorem mid_cut {A : Option Addr} {n c : Nat} (a b : Nat) (lo hi : Int) (hlo : lo = (a : Int)) (hhi : hi = (b : Int)) (h1 : a ≤ b) (h2 : b ≤ n) (hc : n ≤ c) :
  ∃ A' c', b - a ≤ c' ∧ (∀ W : World, (Instr.slice 36 (.slice A n c) (some (.int .i64 lo)) (some (.int .i64 hi)) none).run Tryd.prog W = .ok (.slice A' (b - a) c') W) ∧ ∀ (W : World) (xs : List Nat), xs.length = n → (Kd.int .u8).C W A n (cst xs) → (Kd.int .u8).C W A' (b - a) (cst ((xs.take b).drop a)) := by
 obtain ⟨i0, hi0, _, hsz, _⟩ := info_parts infoU8
 have h := cut_mid (P := Tryd.prog) 36 5 .i64 .i64 Tryd.underlying36 hi0 1 hsz A n c lo hi (by omega) (by omega) (by omega) hc
 rw [hlo, hhi, Int.toNat_natCast, Int.toNat_natCast] at h
 refine ⟨_, c - a, by omega, fun W => by rw [hlo, hhi]; exact h W, fun W xs hx hC => ?_⟩
 subst hx
 have e1 := Kd.C_take (m := b) (by rw [cst_length]; exact hC) (by rw [cst_length]; exact h2)
 rw [cst_take] at e1
 have e2 := Kd.C_drop (m := a) (c := c) (k := Kd.int .u8) e1 (by rw [cst_length, List.length_take]; omega) (by rw [cst_length, List.length_take]; omega)
 rw [cst_drop] at e2
 exact C_map e2 (by rw [cst_length, List.length_drop, List.length_take]; omega)
theorem same_eq (A : Option Addr) (c n : Nat) (l : List Nat) (A' : Option Addr) (c' : Nat) (l' : List Nat) (W : World) (he : l = l') (hn : l.length = n) (hC : (Kd.int .u8).C W A n (cst l)) (hc : n ≤ c) (hC' : (Kd.int .u8).C W A' n (cst l')) (hc' : n ≤ c') (hy : n ≤ 10000) :
  Calls Tryd.prog 23 #[.slice A n c, .slice A' n c'] W fun e W' => e = .returned (.bool true) ∧ ∃ n, W' = W.drewN n := by
 subst he
 subst hn
 have := same_calls A c l.length (cst l) A' c' l.length (cst l) W (cst_length l) (cst_length l) (by rw [cst_length]; exact hC) (by rw [cst_length]; exact hc) (by rw [cst_length]; exact hC') (by rw [cst_length]; exact hc') (by rw [cst_length]; omega)
 rwa [decide_eq_true rfl] at this
/-- the laid side's parts -/
theorem layN_parts (S : List Nat) (at_ : Nat) (q : List Nat) (h : at_ + q.length ≤ S.length) : (layN S at_ q).take at_ = List.replicate at_ 0 ∧ ((layN S at_ q).take (at_ + q.length)) = List.replicate at_ 0 ++ q ∧ (layN S at_ q).drop (at_ + q.length) = S.drop (at_ + q.length) := by
 unfold layN
 refine ⟨by rw [List.take_append_of_le_length (by simp), List.take_of_length_le (by simp)], ?_, ?_⟩
 ·rw [← List.append_assoc, List.take_append_of_le_length (by simp), List.take_of_length_le (by simp)]
 ·rw [← List.append_assoc, List.drop_append_of_le_length (by simp), List.drop_of_length_le (by simp), List.nil_append]
theorem mid_eq {SF S0 Pf P : List Nat} {at_ j lo hi : Nat} (h : SF = layN S0 at_ Pf) (hp : Pf = P ++ [lo, hi]) (hj : j = P.length) : (SF.take (at_ + j)).drop at_ = P := by
 subst h
 subst hp
 subst hj
 unfold layN
 rw [List.take_append, List.length_replicate, Nat.add_sub_cancel_left, List.take_of_length_le (by simp), List.append_assoc, List.take_append_of_le_length (Nat.le_refl _), List.take_of_length_le (Nat.le_refl _), List.drop_append_of_le_length (by simp), List.drop_of_length_le (by simp), List.nil_append]
set_option maxHeartbeats 16000000 in
theorem writes_walk (A : Option Addr) (c : Nat) (D : List Nat) (A' : Option Addr) (c' : Nat) (L : List (List Nat)) (gap : Int) (W : World) (hm : Wave.MS W) (hts : Wave.TS W) (hgm : 0 < W.heap.size) (hg : 1 < W.heap.size)
  (hD : small D) (hDl : D.length ≤ 9223372036854775807) (hCD : (Kd.int .u8).C W A (cst D).length (cst D)) (hcD : (cst D).length ≤ c)
  (hL : ∀ x ∈ L, small x) (hlen : L.length ≤ 9223372036854775807) (hll : ∀ x ∈ L, x.length ≤ 9223372036854775807) (hgap : 0 ≤ gap ∧ gap < 256) (hC : (Kd.slice 5 (Kd.int .u8)).C W A' (L.map cst).length (L.map cst)) (hc : (L.map cst).length ≤ c') :
  Calls Tryd.prog 8 #[.slice A (cst D).length c, .slice A' (L.map cst).length c', .int .u8 gap] W fun e W' => e = .returned (.bool true) ∧ Below W.heap.size W W' := by
 have HMS := Aside0.mk (fun (W1 : World) (hb : Below W.heap.size W W1) => hm.below hb hgm)
 have HTS := Aside0.mk (fun (W1 : World) (hb : Below W.heap.size W W1) => hts.below hb hg)
 have HGT := Aside0.mk (And.intro hgm hg)
 have HAW := Aside0.mk (awake_calls W hts hg)
 have HCUT := Aside0.mk (fun (W1 : World) (hb : Below W.heap.size W W1) => cutr_calls A c (cst D) 30 W1 (by decide) (Kd.C_below hCD hb) hcD (by rw [cst_length]; exact hDl))
 have HCA := Aside0.mk (fun (W1 : World) (hb : Below W.heap.size W W1) => small_calls A' c' L hL hlen hll 0 (by decide) W1 (Kd.C_below hC hb) hc)
 obtain ⟨dn, hdn⟩ : ∃ dn, dn = D.take 30 := ⟨_, rfl⟩
 have HDN := Aside0.mk (show dn.length ≤ 30 ∧ small dn from ⟨by rw [hdn, List.length_take]; omega, by rw [hdn]; exact small_take hD _⟩)
 rw [cst_take, ← hdn] at HCUT
 have hg30 := t30 hgap
 obtain ⟨tg, g0, g1⟩ := hg30
 clear hm hts hgm hg hL hlen hll hC hc hD hDl hCD hcD hdn hgap
 obtain ⟨g, hgg⟩ : ∃ g : Nat, (g : Int) = gap % 30 := ⟨(gap % 30).toNat, by omega⟩
 have HG := Aside0.mk (show g < 30 by omega)
 obtain ⟨gI, hgI⟩ : ∃ gI : Int, gI = (g : Int) := ⟨_, rfl⟩
 have HGI := Aside0.mk hgI
 rw [← hgg, ← hgI] at tg
 clear g0 g1 hgg hgI
 generalize (L.map cst).length = n0 at *
 generalize (cst D).length = n1 at *
 go_enter Tryd.func8, Tryd.ntmps8
 go_wp2_with (go_at_call 9; refine HAW.out.mono ?_; rintro e w1 ⟨rfl, hb⟩; have B1 := Aside0.mk hb; clear hb)
 refine (HCUT.out w1 B1.out).mono ?_
 rintro e w2 ⟨v2, rfl, hR, hb⟩
 obtain ⟨A1, c1, rfl, hc1, hC1⟩ := Kd.R_reads hR
 rw [cst_length] at hc1 hC1
 have HD2 := Aside0.mk (And.intro hc1 hC1)
 have B2 := Aside0.mk (B1.out.trans (hb.mono B1.out.size))
 clear hR hb hc1 hC1 HCUT HAW B1
 rw [cst_length]
 obtain ⟨nd, hnd⟩ : ∃ nd, nd = dn.length := ⟨_, rfl⟩
 have HND := Aside0.mk hnd
 rw [← hnd] at HD2
 rw [← hnd]
 clear hnd
 go_wp2_with fail
 obtain ⟨l, hf, hcall⟩ := HCA.out w2 B2.out
 rw [show ((0 : Nat) : Int) = 0 from rfl] at hcall
 have HF := Aside0.mk hf
 have HCALL := Aside0.mk hcall
 clear hf hcall HCA
 refine HCALL.out.mono ?_
 rintro e w3 ⟨A2, c2, A3, c3, rfl, l1, g1, l2, g2, hb⟩
 have B3 := Aside0.mk (B2.out.trans (hb.mono B2.out.size))
 have HD3 := Aside0.mk (And.intro HD2.out.1 (Kd.C_below HD2.out.2 hb))
 obtain ⟨sd, hsd⟩ : ∃ sd, sd = PureR.sideR l := ⟨_, rfl⟩
 have HSD := Aside0.mk hsd
 rw [← hsd] at l2 g2
 rw [← hsd]
 clear hsd
 obtain ⟨ns, hns⟩ : ∃ ns, ns = sd.length := ⟨_, rfl⟩
 have HNS := Aside0.mk hns
 rw [← hns] at l2 g2
 rw [← hns]
 clear hns
 have HS3 := Aside0.mk (And.intro l2 g2)
 have HNS2 := Aside0.mk (show 200 < ns ∧ ns ≤ 1400 from by have := side_len HF.out; rwa [← HSD.out, ← HNS.out] at this)
 clear l1 g1 l2 g2 hb HCALL HD2 B2
 obtain ⟨z300, hz3⟩ : ∃ z, z = List.replicate 300 0 := ⟨_, rfl⟩
 have HZ3 := Aside0.mk hz3
 have HZ3L := Aside0.mk (show z300.length = 300 by rw [hz3, List.length_replicate])
 clear hz3
 obtain ⟨z60, hz6⟩ : ∃ z, z = List.replicate 60 0 := ⟨_, rfl⟩
 have HZ6 := Aside0.mk hz6
 have HZ6L := Aside0.mk (show z60.length = 60 by rw [hz6, List.length_replicate])
 clear hz6
 go_wp2_with (first
  | ((with_reducible refine gate_dst (N := 34) rfl ?_); refine Kd.R_make (Kd.int .u8) (w0 := w3) w3.heap.size 5 rfl rfl 36 _ _ rfl 300 rfl rfl Tryd.underlying36 (.int .u8 0) 1 infoU8 rfl (by decide) (by omega) 0 (okp := fun _ => False) (ok := fun _ => True) rfl (fun _ h => h.elim) trivial (by decide) (by decide) (Below.refl _ _) (Nat.le_refl _) ?_; intro v4 w4 ho hb hg hat; rw [show List.replicate (300 : Int).toNat (0 : Int) = cst z300 from by rw [HZ3.out]; exact zeros_c 300] at ho; obtain ⟨A4, c4, e4, hc4, hC4⟩ := Kd.R_reads ho; rw [cst_length, HZ3L.out] at e4 hc4 hC4; subst e4; have HZ4 := Aside0.mk (And.intro hc4 hC4); have HS4 := Aside0.mk (And.intro HS3.out.1 (Kd.C_below HS3.out.2 hb)); have B34 := Aside0.mk hb; clear ho hb hg hat hc4 hC4)
  | fail)
 have hj := join2_calls (some ⟨w4.heap.size, 0, none⟩) 2 (cst sd) (cst z300) _ (C_pair w4 A3 c3 ns (cst sd) A4 c4 300 (cst z300) (by rw [cst_length, ← HNS.out]) (by rw [cst_length, HZ3L.out]) HS4.out.2 HS4.out.1 HZ4.out.2 HZ4.out.1) (Nat.le_refl _) (by rw [List.length_append, cst_length, cst_length, ← HNS.out, HZ3L.out]; have := HNS2.out; omega)
 rw [← cst_append] at hj
 have HJ := Aside0.mk hj
 clear hj
 refine HJ.out.mono ?_
 rintro e w5 ⟨v5, rfl, hR, hb⟩
 obtain ⟨A5, c5, e5, hc5, hC5⟩ := Kd.R_reads hR
 have hl5 : (cst (sd ++ z300)).length = ns + 300 := by rw [cst_length, List.length_append, HZ3L.out, HNS.out]
 rw [hl5] at e5 hc5 hC5
 subst e5
 have HS5 := Aside0.mk (And.intro hc5 hC5)
 have B35 := Aside0.mk (below_step B34.out (below_step (below_alloc (Below.refl w4.heap.size w4) _) hb))
 clear hR hb hc5 hC5 hl5 HJ HS4 HZ4 B34
 go_wp2_with (first
  | ((with_reducible refine gate_dst (N := 37) rfl ?_); refine Kd.R_make (Kd.int .u8) (w0 := w5) w5.heap.size 5 rfl rfl 36 _ _ rfl 60 rfl rfl Tryd.underlying36 (.int .u8 0) 1 infoU8 rfl (by decide) (by omega) 0 (okp := fun _ => False) (ok := fun _ => True) rfl (fun _ h => h.elim) trivial (by decide) (by decide) (Below.refl _ _) (Nat.le_refl _) ?_; intro v6 w6 ho hb hg hat; rw [show List.replicate (60 : Int).toNat (0 : Int) = cst z60 from by rw [HZ6.out]; exact zeros_c 60] at ho; obtain ⟨A6, c6, e6, hc6, hC6⟩ := Kd.R_reads ho; rw [cst_length, HZ6L.out] at e6 hc6 hC6; subst e6; have HZ7 := Aside0.mk (And.intro hc6 hC6); have HS6 := Aside0.mk (And.intro HS5.out.1 (Kd.C_below HS5.out.2 hb)); have B56 := Aside0.mk hb; clear ho hb hg hat hc6 hC6)
  | fail)
 have hj := join2_calls (some ⟨w6.heap.size, 0, none⟩) 2 (cst z60) (cst (sd ++ z300)) _ (C_pair w6 A6 c6 60 (cst z60) A5 c5 (ns + 300) (cst (sd ++ z300)) (by rw [cst_length, HZ6L.out]) (by rw [cst_length, List.length_append, HZ3L.out, HNS.out]) HZ7.out.2 HZ7.out.1 HS6.out.2 HS6.out.1) (Nat.le_refl _) (by rw [List.length_append, cst_length, cst_length, List.length_append, ← HNS.out, HZ3L.out, HZ6L.out]; have := HNS2.out; omega)
 rw [← cst_append] at hj
 obtain ⟨S0, hS0⟩ : ∃ S0, S0 = z60 ++ (sd ++ z300) := ⟨_, rfl⟩
 rw [← hS0] at hj
 have HS0 := Aside0.mk (show S0 = sideW sd from by rw [hS0, HZ6.out, HZ3.out]; rfl)
 obtain ⟨n5, hn5⟩ : ∃ n5, n5 = S0.length := ⟨_, rfl⟩
 have HN5 := Aside0.mk hn5
 have HN6 := Aside0.mk (show 560 < n5 ∧ n5 ≤ 1760 from by rw [hn5, HS0.out, sideW_len, ← HNS.out]; have := HNS2.out; omega)
 have HJ := Aside0.mk hj
 clear hj hS0 hn5
 refine HJ.out.mono ?_
 rintro e w7 ⟨v7, rfl, hR, hb⟩
 obtain ⟨A7, c7, e7, hc7, hC7⟩ := Kd.R_reads hR
 rw [cst_length, ← HN5.out] at e7 hc7 hC7
 subst e7
 have HS7 := Aside0.mk (And.intro hc7 hC7)
 have B37 := Aside0.mk (below_step B35.out (below_step B56.out (below_step (below_alloc (Below.refl w6.heap.size w6) _) hb)))
 have B7 := Aside0.mk (B3.out.trans (B37.out.mono B3.out.size))
 have HD7 := Aside0.mk (And.intro HD3.out.1 (Kd.C_below HD3.out.2 B37.out))
 clear hR hb hc7 hC7 HJ HS6 HZ7 B56 B35 HS5 HS3 HD3 B37 B3
 have hsm : small S0 := by
  rw [HS0.out]
  unfold sideW
  exact small_append (fun x hx => by rw [List.eq_of_mem_replicate hx]; decide) (small_append (by rw [HSD.out]; exact side_small HF.out) (fun x hx => by rw [List.eq_of_mem_replicate hx]; decide))
 have HSM := Aside0.mk hsm
 clear hsm
 go_wp2_with fail
 have hop := open_calls W.heap.size w7 B7.out.size A7 c7 (cst S0) (by rw [cst_length, ← HN5.out]; exact HS7.out.2) (by rw [cst_length, ← HN5.out]; exact HS7.out.1) (by rw [cst_length, ← HN5.out]; have := HN6.out; omega) (by rw [cst_length, ← HN5.out]; have := HN6.out; omega)
 rw [cst_length, ← HN5.out] at hop
 have HOP := Aside0.mk hop
 clear hop
 refine HOP.out.mono ?_
 rintro e w8 ⟨p, rfl, hi, hb, g1, g2, g3, gv⟩
 have H8 := Aside0.mk hi
 have LO := Aside0.mk hi.low
 have HP := Aside0.mk (show ∀ i, Foot p i → w7.heap.size ≤ i from fun i e => by
  rcases e with e | e | e | e
  ·rw [e]; exact g1
  ·rw [e]; exact g2
  ·rw [e]; exact g3
  ·exact gv i e)
 obtain ⟨zz, hzz⟩ : ∃ zz, zz = w7.heap.size := ⟨_, rfl⟩
 have HZZ := Aside0.mk hzz
 rw [← hzz] at HP
 obtain ⟨z5, hz5⟩ : ∃ z5, z5 = w8.heap.size := ⟨_, rfl⟩
 have BA := Aside0.mk (show Below zz w7 w8 from by rw [hzz]; exact hb)
 rw [← hz5] at LO
 have ZA := Aside0.mk (show z5 ≤ w8.heap.size from Nat.le_of_eq hz5)
 have HTZ := Aside0.mk (fun (W1 : World) (hb : Below zz w7 W1) => HTS.out W1 (B7.out.trans (hb.mono (by rw [HZZ.out]; exact B7.out.size))))
 have HMZ := Aside0.mk (fun (W1 : World) (hb : Below zz w7 W1) => HMS.out W1 (B7.out.trans (hb.mono (by rw [HZZ.out]; exact B7.out.size))))
 have HSC := Aside0.mk (show cst S0 ≠ [] ∧ (cst S0).length ≤ 65536 ∧ ∀ j, U8 (rd (cst S0) j) from ⟨fun e => by have h1 := congrArg List.length e; rw [cst_length, ← HN5.out, List.length_nil] at h1; have := HN6.out; omega, by rw [cst_length, ← HN5.out]; have := HN6.out; omega, small_u8 HSM.out⟩)
 clear hi hb g1 g2 g3 gv HOP hzz hz5 HZ3 HZ6 HZ3L HZ6L HTS HMS
 have hp5 := put25_go H8.out Wave.okv0 ⟨by decide, by decide, ⟨by decide, by decide⟩, ⟨by decide, by decide⟩, by decide, by decide⟩ rfl rfl HSC.out.1 HSC.out.2.1 HSC.out.2.2 5 ⟨by decide, by decide⟩ (by decide) (HMZ.out _ BA.out)
 rw [cmd5 aI 0 0 ⟨rfl, rfl, rfl, rfl, rfl, rfl, rfl, rfl, rfl, rfl⟩] at hp5
 have HP5 := Aside0.mk hp5
 clear hp5
 go_wp2_with fail
 refine (HP5.out).mono ?_
 rintro e w9 ⟨rfl, hh, ht⟩
 have H9 := Aside0.mk hh
 have BB := Aside0.mk (over BA.out ht HP.out (Nat.le_of_eq HZZ.out))
 have ZB := Aside0.mk (Nat.le_trans ZA.out ht.below.size)
 clear hh ht
 clear HP5 H8
 go_wp2_with fail
 go_loopg [46] 20 (fun kq v46 w' => ∃ (i : Nat), v46 = .int .i64 (i : Int) ∧ Aside0 ((i : Int) + kq = 20) ∧ Aside0 (∃ d, Hd W.heap.size w' p (stB 5 0 0 false false 32768 0) d (cst S0) (T i)) ∧ Aside0 (Below zz w7 w') ∧ Aside0 (z5 ≤ w'.heap.size))
 case atStart => exact ⟨0, rfl, ⟨by decide⟩, ⟨by rw [show T 0 = 0 from rfl]; exact H9.out⟩, BB, ZB⟩
 case round =>
  clear H9 BB ZB BA ZA
  obtain ⟨i, rfl, HI, HR, BC, ZC⟩ := hrel
  have e1 : wrap64 ((i : Int) + 1) = ((i + 1 : Nat) : Int) := w1n i (by have := HI.out; omega)
  by_cases hlt : i < 20
  ·have d1 : decide ((i : Int) < 20) = true := decide_eq_true (by omega)
   have HPS := Aside0.mk (passes_as HR.out (by rw [cst_length, ← HN5.out]; have := HN6.out; omega) (HTZ.out _ BC.out) HGT.out.2 (ps5 0 0 32768 0 _ false false) (psL5 0 0 32768 0 false false (cst S0) i))
   go_wp2_with fail
   refine (HPS.out).mono ?_
   rintro e w10 ⟨rfl, hh, ht⟩
   have H10 := Aside0.mk hh
   have BD := Aside0.mk (over BC.out ht HP.out (Nat.le_of_eq HZZ.out))
   have ZD := Aside0.mk (Nat.le_trans ZC.out ht.below.size)
   clear hh ht
   clear HPS HR BC ZC
   go_wp2
   go_roundg (gk - 1)
   case measure => have := HI.out; omega
   case rel => exact ⟨i + 1, by first | rfl | (congr 1), ⟨by have := HI.out; push_cast; omega⟩, H10, BD, ZD⟩
  ·have d1 : decide ((i : Int) < 20) = false := decide_eq_false (by omega)
   obtain rfl : i = 20 := by have := HI.out; omega
   clear hlt
   have HAT := Aside0.mk (at_as HR.out (by rw [cst_length, ← HN5.out]; have := HN6.out; omega) (by decide))
   go_wp2_with fail
   refine HAT.out.1.mono ?_
   rintro e w10 ⟨rfl, rfl⟩
   go_wp2_with fail
   refine HAT.out.2.mono ?_
   rintro e w10 ⟨rfl, rfl⟩
   have HP1 := Aside0.mk (put25_as HR.out 1 ⟨by decide, by decide⟩ (by decide) (HMZ.out _ BC.out) (cmdOff 5 0 0 32768 0 1 false false (by decide)))
   clear HAT HR
   go_wp2_with fail
   refine (HP1.out).mono ?_
   rintro e w11 ⟨rfl, hh, ht⟩
   have H11 := Aside0.mk hh
   have BD := Aside0.mk (over BC.out ht HP.out (Nat.le_of_eq HZZ.out))
   have ZD := Aside0.mk (Nat.le_trans ZC.out ht.below.size)
   clear hh ht
   clear HP1 BC ZC e1 d1 HI
   go_wp2_with fail
   go_loopg [58] g (fun kq v58 w' => ∃ (i : Nat) (k : Bool), v58 = .int .u8 (i : Int) ∧ Aside0 ((i : Int) + kq = gI) ∧ Aside0 (∃ d, Hd W.heap.size w' p (stB 1 0 0 k false 32768 0) d (cst S0) (T (20 + i))) ∧ Aside0 (Below zz w7 w') ∧ Aside0 (z5 ≤ w'.heap.size))
   case atStart => exact ⟨0, false, rfl, ⟨by have := HGI.out; omega⟩, H11, BD, ZD⟩
   case round =>
    clear H11 BD ZD
    obtain ⟨i, k, rfl, HI, HR, BC, ZC⟩ := hrel
    by_cases hlt : (i : Int) < gI
    ·have d1 : decide ((i : Int) < gI) = true := decide_eq_true hlt
     have e1 := u8n i (by have := HGI.out; have := HG.out; omega)
     have hss : (cst S0).set (20 + i) 0 = cst S0 := by
      have h := cst_set S0 (20 + i) 0
      rw [show ((0 : Nat) : Int) = 0 from rfl] at h
      rw [h, set_same S0 _ (getD_zeros (by rw [HS0.out]; exact sideW_zeros sd 60 (by decide)) (by have := HGI.out; have := HG.out; omega))]
     have HPS := Aside0.mk (passes_as HR.out (by rw [cst_length, ← HN5.out]; have := HN6.out; have := HGI.out; have := HG.out; omega) (HTZ.out _ BC.out) HGT.out.2 (ps1 0 0 32768 0 _ k false) ((psL1 0 0 32768 0 k false (cst S0) (20 + i)).trans hss))
     clear hss
     go_wp2_with fail
     refine (HPS.out).mono ?_
     rintro e w12 ⟨rfl, hh, ht⟩
     have H12 := Aside0.mk hh
     have BD := Aside0.mk (over BC.out ht HP.out (Nat.le_of_eq HZZ.out))
     have ZD := Aside0.mk (Nat.le_trans ZC.out ht.below.size)
     clear hh ht
     clear HPS HR BC ZC
     have HLT := Aside0.mk hlt
     clear hlt
     go_wp2
     go_roundg (gk - 1)
     case measure => have := HI.out; have := HLT.out; omega
     case rel => exact ⟨i + 1, true, by first | rfl | (congr 1), ⟨by have := HI.out; have := HLT.out; push_cast; omega⟩, H12, BD, ZD⟩
    ·have d1 : decide ((i : Int) < gI) = false := decide_eq_false hlt
     obtain rfl : i = g := by have := HI.out; have := HGI.out; omega
     clear hlt HI
     go_wp2_with fail
     have hj := join2_calls (some ⟨(wr.alloc (.cells #[.int .u8 128, .int .u8 4] 5 (0, 0))).heap.size, 0, none⟩) 2 [128, 4] (cst dn) _ (C_pair (wr.alloc (.cells #[.int .u8 128, .int .u8 4] 5 (0, 0))) (some ⟨wr.heap.size, 0, none⟩) 2 2 [128, 4] A1 c1 nd (cst dn) rfl (by rw [cst_length, ← HND.out]) (C_two8 wr 128 4) (Nat.le_refl _) (Kd.C_below HD7.out.2 (below_to (by rw [← HZZ.out]; exact BC.out) (by have := BC.out.size; exact this) (below_alloc (Below.refl _ _) _))) HD7.out.1) (Nat.le_refl _) (by rw [List.length_append, cst_length]; have := HDN.out.1; simp; omega)
     rw [show (wr.alloc (.cells #[.int .u8 128, .int .u8 4] 5 (0, 0))).heap.size = wr.heap.size + 1 by simp] at hj
     obtain ⟨P, hP⟩ : ∃ P : List Nat, P = 128 :: 4 :: dn := ⟨_, rfl⟩
     rw [show [128, 4] ++ cst dn = cst P from by rw [hP]; rfl] at hj
     have HPD := Aside0.mk hP
     obtain ⟨np, hnp⟩ : ∃ np, np = P.length := ⟨_, rfl⟩
     have HNP := Aside0.mk hnp
     have HNP2 := Aside0.mk (show np = nd + 2 ∧ np ≤ 32 from by have := HDN.out.1; rw [hnp, hP, List.length_cons, List.length_cons, ← HND.out]; rw [← HND.out] at this; omega)
     have HPS := Aside0.mk (show small P from by
      rw [hP]
      intro x hx
      rcases List.mem_cons.1 hx with rfl | hx
      ·decide
      ·rcases List.mem_cons.1 hx with rfl | hx
       ·decide
       ·exact HDN.out.2 x hx)
     have HJ := Aside0.mk hj
     clear hj hP hnp
     refine HJ.out.mono ?_
     rintro e w12 ⟨v12, rfl, hRr, hb⟩
     obtain ⟨zP, hzP⟩ : ∃ zP, zP = wr.heap.size := ⟨_, rfl⟩
     have hbb : Below wr.heap.size wr w12 := below_step (below_alloc (below_alloc (Below.refl wr.heap.size wr) _) _) hb
     have HRP := Aside0.mk (show (Kd.int .u8).R 5 w12 zP (fun _ => True) v12 (cst P) from Kd.R_lower hRr (by rw [hzP]; simp; omega))
     have HZP := Aside0.mk (show z5 ≤ zP from by rw [hzP]; exact ZC.out)
     have LOP := Aside0.mk (LO.out.mono HZP.out)
     have BD := Aside0.mk (show Below zz w7 w12 from below_to BC.out (by have := BC.out.size; rw [HZZ.out]; exact this) hbb)
     have ZD := Aside0.mk (show z5 ≤ w12.heap.size from Nat.le_trans ZC.out hbb.size)
     have H12 := Aside0.mk (show ∃ d, Hd W.heap.size w12 p (stB 1 0 0 k false 32768 0) d (cst S0) (T (20 + i)) from by obtain ⟨d, h⟩ := HR.out; exact ⟨d, h.keptB LO.out (hbb.mono ZC.out)⟩)
     obtain ⟨gP, cP, hvP, hgP, hlP⟩ := (Kd.own_of_R HRP.out).form (by rw [cst_length, ← HNP.out]; have := HNP2.out; omega)
     rw [cst_length, ← HNP.out] at hvP
     subst hvP
     clear hRr hb hbb hzP hgP hlP HJ HR BC ZC HD7
     obtain ⟨at_, hat⟩ : ∃ at_, at_ = 20 + i := ⟨_, rfl⟩
     have HATT := Aside0.mk hat
     have HATL := Aside0.mk (show at_ < 50 from by rw [hat]; have := HG.out; omega)
     rw [← hat] at H12
     clear hat
     have HZA := Aside0.mk (show S0.take at_ = List.replicate at_ 0 from by rw [HS0.out]; exact sideW_zeros sd at_ (by have := HATL.out; omega))
     have HP65 := Aside0.mk (put25_as H12.out 65 ⟨by decide, by decide⟩ (by decide) (HMZ.out _ BD.out) (cmdOn 1 0 0 32768 0 65 k false ⟨by decide, by decide⟩))
     go_wp2_with fail
     refine HP65.out.mono ?_
     rintro e w13 ⟨rfl, hh, ht⟩
     have H13 := Aside0.mk (show ∃ d, Hd W.heap.size w13 p (stB 65 0 0 k false (stpL 32768 (cst (P.take 0))) 0) d (cst (layN S0 at_ (P.take 0))) (T (at_ + 0)) from by rw [List.take_zero, layN_nil S0 at_ HZA.out]; exact hh)
     have BE := Aside0.mk (over BD.out ht HP.out (Nat.le_of_eq HZZ.out))
     have ZE := Aside0.mk (Nat.le_trans ZD.out ht.below.size)
     have HRP2 := Aside0.mk (R_turn HRP.out LOP.out ht)
     clear hh ht HP65 H12 BD ZD HRP
     go_wp2_with fail
     obtain ⟨NP, hNP⟩ : ∃ NP : Int, NP = (np : Int) := ⟨_, rfl⟩
     have HNPI := Aside0.mk hNP
     rw [← hNP]
     clear hNP
     go_loopg [71] np (fun kq v71 w' => ∃ (j : Nat) (o : Int) (k : Bool), v71 = .int .i64 (j : Int) ∧ Aside0 ((j : Int) + kq = NP) ∧ Aside0 (∃ d, Hd W.heap.size w' p (stB 65 0 o k false (stpL 32768 (cst (P.take j))) 0) d (cst (layN S0 at_ (P.take j))) (T (at_ + j))) ∧ Aside0 ((Kd.int .u8).R 5 w' zP (fun _ => True) (.slice (some ⟨gP, 0, none⟩) np cP) (cst P)) ∧ Aside0 (Below zz w7 w') ∧ Aside0 (z5 ≤ w'.heap.size))
     case atStart => exact ⟨0, 0, k, rfl, ⟨by have := HNPI.out; omega⟩, H13, HRP2, BE, ZE⟩
     case round =>
      clear H13 HRP2 BE ZE
      obtain ⟨j, o, k, rfl, HI, HR, HRP, BC, ZC⟩ := hrel
      by_cases hlt : (j : Int) < NP
      ·have d1 : decide ((j : Int) < NP) = true := decide_eq_true hlt
       have hjn : j < np := by have := HNPI.out; omega
       have HJN := Aside0.mk hjn
       have e1 : wrap64 ((j : Int) + 1) = ((j + 1 : Nat) : Int) := w1n j (by have := HNP2.out; omega)
       obtain ⟨b, hbv⟩ : ∃ b, b = P.getD j 0 := ⟨_, rfl⟩
       have HBV := Aside0.mk (show P.take (j + 1) = P.take j ++ [b] ∧ b < 256 ∧ (P.take j).length = j from ⟨by rw [hbv, List.take_succ_eq_append_getElem (by rw [← HNP.out]; exact hjn), List.getD_eq_getElem?_getD, List.getElem?_eq_getElem (by rw [← HNP.out]; exact hjn)]; rfl, by rw [hbv]; exact getD_small HPS.out j, by rw [List.length_take, ← HNP.out]; omega⟩)
       have hcell : wr.cell? ⟨gP, j, none⟩ = some (.int .u8 (b : Int)) := by
        obtain ⟨ad', ea, hx⟩ := Kd.at_int (Kd.R_reads' HRP.out).2.2 ((j : Nat) : Int) (by omega) (by rw [cst_length, ← HNP.out]; omega)
        cases ea
        rw [add_at, Nat.zero_add, Int.toNat_natCast, cst_rd, ← hbv] at hx
        exact hx
       have q5 : (j < np) = True := eq_true hjn
       clear hbv hjn hlt
       have HPA := Aside0.mk (put24_as HR.out (b : Int) ⟨by omega, by have := HBV.out.2.1; omega⟩ (HMZ.out _ BC.out))
       go_wp2_with fail
       refine HPA.out.mono ?_
       rintro e w14 ⟨rfl, hh, ht⟩
       have HRP14 := Aside0.mk (R_turn HRP.out LOP.out ht)
       have BF := Aside0.mk (over BC.out ht HP.out (Nat.le_of_eq HZZ.out))
       have ZF := Aside0.mk (Nat.le_trans ZC.out ht.below.size)
       have hset : (cst (layN S0 at_ (P.take j))).set (at_ + j) (b : Int) = cst (layN S0 at_ (P.take (j + 1))) := by
        have h := layN_set S0 at_ (P.take j) b (by rw [HBV.out.2.2, ← HN5.out]; have := HN6.out; have := HATL.out; have := HNP2.out; have := HJN.out; omega)
        rw [HBV.out.2.2] at h
        rw [cst_set, h, HBV.out.1]
       have hstp : stp (stpL 32768 (cst (P.take j))) (b : Int) = stpL 32768 (cst (P.take (j + 1))) := by
        rw [HBV.out.1, cst_append]
        exact (stpL_snoc _ _ _).symm
       have hps := passes_as hh (by rw [cst_length, layN_len S0 at_ _ (by rw [HBV.out.2.2, ← HN5.out]; have := HN6.out; have := HATL.out; have := HNP2.out; have := HJN.out; omega), ← HN5.out]; have := HN6.out; have := HATL.out; have := HNP2.out; have := HJN.out; omega) (HTZ.out _ BF.out) HGT.out.2 (ps65 0 (b : Int) _ 0 _ false false) ((psL65 0 (b : Int) _ 0 false false _ _).trans hset)
       rw [hstp] at hps
       have HPS2 := Aside0.mk hps
       clear hh ht hset hstp hps HPA HR HRP BC ZC hcell q5
       go_wp2_with fail
       refine HPS2.out.mono ?_
       rintro e w15 ⟨rfl, hh, ht⟩
       have HRP15 := Aside0.mk (R_turn HRP14.out LOP.out ht)
       have BG := Aside0.mk (over BF.out ht HP.out (Nat.le_of_eq HZZ.out))
       have ZG := Aside0.mk (Nat.le_trans ZF.out ht.below.size)
       have HST := Aside0.mk (stat_as hh)
       clear hh ht HPS2 BF ZF HRP14
       go_wp2_with fail
       refine HST.out.mono ?_
       rintro e w16 ⟨⟨x, rfl, hx⟩, hh, ht⟩
       have HRP16 := Aside0.mk (R_turn HRP15.out LOP.out ht)
       have BH := Aside0.mk (over BG.out ht HP.out (Nat.le_of_eq HZZ.out))
       have ZH := Aside0.mk (Nat.le_trans ZG.out ht.below.size)
       have H16 := Aside0.mk (show ∃ d, Hd W.heap.size w16 p (stB 65 0 (b : Int) false false (stpL 32768 (cst (P.take (j + 1)))) 0) d (cst (layN S0 at_ (P.take (j + 1)))) (T (at_ + (j + 1))) from hh)
       clear hh ht HST BG ZG HRP15
       go_wp2
       go_roundg (gk - 1)
       case measure => have := HI.out; have := HJN.out; have := HNPI.out; omega
       case rel => exact ⟨j + 1, (b : Int), false, by first | rfl | (congr 1), ⟨by have := HI.out; have := HJN.out; have := HNPI.out; push_cast; omega⟩, H16, HRP16, BH, ZH⟩
      ·have d1 : decide ((j : Int) < NP) = false := decide_eq_false hlt
       obtain rfl : j = np := by have := HI.out; have := HNPI.out; omega
       clear hlt HI
       rw [List.take_of_length_le (Nat.le_of_eq HNP.out.symm)] at HR
       have HS81 := Aside0.mk (put25_as HR.out 81 ⟨by decide, by decide⟩ (by decide) (HMZ.out _ BC.out) (cmdOn 65 0 o _ 0 81 k false ⟨by decide, by decide⟩))
       clear HR
       go_wp2_with fail
       refine HS81.out.mono ?_
       rintro e w14 ⟨rfl, hh, ht⟩
       have HRP14 := Aside0.mk (R_turn HRP.out LOP.out ht)
       have BF := Aside0.mk (over BC.out ht HP.out (Nat.le_of_eq HZZ.out))
       have ZF := Aside0.mk (Nat.le_trans ZC.out ht.below.size)
       obtain ⟨lo, hlo⟩ : ∃ lo, lo = shortN P % 256 := ⟨_, rfl⟩
       obtain ⟨hi, hhi⟩ : ∃ hi, hi = shortN P / 256 := ⟨_, rfl⟩
       have HLH := Aside0.mk (show lo = shortN P % 256 ∧ hi = shortN P / 256 ∧ lo < 256 ∧ hi < 256 from ⟨hlo, hhi, by rw [hlo]; omega, by rw [hhi]; have := shortN_lt P; omega⟩)
       have hset : (cst (layN S0 at_ P)).set (at_ + j) (stp (stp (stpL 32768 (cst P)) 0) 0 % 256) = cst (layN S0 at_ (P ++ [lo])) := by
        rw [short_stp, show ((shortN P : Nat) : Int) % 256 = ((lo : Nat) : Int) from by rw [hlo]; omega, cst_set, HNP.out, layN_set S0 at_ P lo (by rw [← HNP.out, ← HN5.out]; have := HN6.out; have := HATL.out; have := HNP2.out; omega)]
       have hps := passes_as hh (by rw [cst_length, layN_len S0 at_ _ (by rw [← HNP.out, ← HN5.out]; have := HN6.out; have := HATL.out; have := HNP2.out; omega), ← HN5.out]; have := HN6.out; have := HATL.out; have := HNP2.out; omega) (HTZ.out _ BF.out) HGT.out.2 (ps81a 0 o _ _ k false) ((psL81a 0 o _ k false _ _).trans hset)
       rw [short_stp] at hps
       have HPS2 := Aside0.mk hps
       clear hh ht hset hps HS81 HRP BC ZC hlo hhi
       go_wp2_with fail
       refine HPS2.out.mono ?_
       rintro e w15 ⟨rfl, hh, ht⟩
       have HRP15 := Aside0.mk (R_turn HRP14.out LOP.out ht)
       have BG := Aside0.mk (over BF.out ht HP.out (Nat.le_of_eq HZZ.out))
       have ZG := Aside0.mk (Nat.le_trans ZF.out ht.below.size)
       have hset : (cst (layN S0 at_ (P ++ [lo]))).set (at_ + j + 1) (((shortN P : Nat) : Int) / 256) = cst (layN S0 at_ (P ++ [lo] ++ [hi])) := by
        have h := layN_set S0 at_ (P ++ [lo]) hi (by rw [List.length_append, ← HNP.out, ← HN5.out]; have := HN6.out; have := HATL.out; have := HNP2.out; simp; omega)
        rw [List.length_append, ← HNP.out, List.length_singleton, ← Nat.add_assoc] at h
        rw [show ((shortN P : Nat) : Int) / 256 = ((hi : Nat) : Int) from by rw [HLH.out.2.1]; omega, cst_set, h]
       have HPS3 := Aside0.mk (passes_as hh (by rw [cst_length, layN_len S0 at_ _ (by rw [List.length_append, ← HNP.out, ← HN5.out]; have := HN6.out; have := HATL.out; have := HNP2.out; simp; omega), ← HN5.out]; have := HN6.out; have := HATL.out; have := HNP2.out; omega) (HTZ.out _ BG.out) HGT.out.2 (ps81b 0 o _ _ true false) ((psL81b 0 o _ true false _ _).trans hset))
       clear hh ht hset HPS2 BF ZF HRP14
       go_wp2_with fail
       refine HPS3.out.mono ?_
       rintro e w16 ⟨rfl, hh, ht⟩
       have HRP16 := Aside0.mk (R_turn HRP15.out LOP.out ht)
       have BH := Aside0.mk (over BG.out ht HP.out (Nat.le_of_eq HZZ.out))
       have ZH := Aside0.mk (Nat.le_trans ZG.out ht.below.size)
       have HS5 := Aside0.mk (put25_as hh 5 ⟨by decide, by decide⟩ (by decide) (HMZ.out _ BH.out) (cmdOff 81 0 o _ 2 5 true false (by decide)))
       clear hh ht HPS3 BG ZG HRP15
       go_wp2_with fail
       refine HS5.out.mono ?_
       rintro e w17 ⟨rfl, hh, ht⟩
       have HRP17 := Aside0.mk (R_turn HRP16.out LOP.out ht)
       have BI := Aside0.mk (over BH.out ht HP.out (Nat.le_of_eq HZZ.out))
       have HSD2 := Aside0.mk (side_as hh)
       clear hh ht HS5 BH ZH HRP16
       go_wp2_with fail
       refine HSD2.out.1.mono ?_
       rintro e w18 ⟨rfl, rfl⟩
       go_wp2_with fail
       refine HSD2.out.2.mono ?_
       rintro e w18 ⟨v18, rfl, hR, hb⟩
       obtain ⟨SF, hSF⟩ : ∃ SF, SF = layN S0 at_ (P ++ [lo] ++ [hi]) := ⟨_, rfl⟩
       rw [← hSF] at hR
       have HSF := Aside0.mk hSF
       have HSFL := Aside0.mk (show SF.length = n5 from by rw [hSF, layN_len S0 at_ _ (by rw [List.length_append, List.length_append, ← HNP.out, ← HN5.out]; have := HN6.out; have := HATL.out; have := HNP2.out; simp; omega), HN5.out])
       obtain ⟨A18, c18, e18, hc18, hC18⟩ := Kd.R_reads hR
       rw [cst_length, HSFL.out] at e18 hc18 hC18
       subst e18
       have BJ := Aside0.mk (show Below zz w7 w18 from below_to BI.out (by have := BI.out.size; rw [HZZ.out]; exact this) hb)
       have HCN := Aside0.mk (fun (W1 : World) (h : Below w18.heap.size w18 W1) => Kd.C_below hC18 h)
       have HCS := Aside0.mk (fun (W1 : World) (h : Below w18.heap.size w18 W1) => Kd.C_below HS7.out.2 (by rw [← HZZ.out]; exact below_to BJ.out (by have := BJ.out.size; rw [HZZ.out]; exact this) h))
       have hcp := Kd.R_reads' HRP17.out
       rw [cst_length, ← HNP.out] at hcp
       have HCP := Aside0.mk (And.intro hcp.2.1 (fun (W1 : World) (h : Below w18.heap.size w18 W1) => Kd.C_below (Kd.C_below hcp.2.2 hb) h))
       have HCC := Aside0.mk (And.intro hc18 HS7.out.1)
       clear hR hb hc18 hC18 hSF hcp HRP17 BI HSD2 HS7
       obtain ⟨AT, hAT⟩ : ∃ AT : Int, AT = (at_ : Int) := ⟨_, rfl⟩
       have HAT2 := Aside0.mk hAT
       clear hAT
       have HX1 := Aside0.mk (idx_facts HGI.out HG.out HATT.out HAT2.out)
       have wg := HX1.out.1
       have wg2 := HX1.out.2.1
       have wat := HX1.out.2.2
       obtain ⟨Pf, hPf⟩ : ∃ Pf, Pf = P ++ [lo] ++ [hi] := ⟨_, rfl⟩
       have HPF := Aside0.mk (show Pf = P ++ [lo, hi] ∧ Pf.length = j + 2 ∧ at_ + (j + 2) ≤ n5 ∧ at_ + (j + 2) ≤ S0.length from ⟨by rw [hPf]; simp, by rw [hPf, List.length_append, List.length_append, ← HNP.out]; rfl, by have := HN6.out; have := HATL.out; have := HNP2.out; omega, by rw [← HN5.out]; have := HN6.out; have := HATL.out; have := HNP2.out; omega⟩)
       rw [← hPf] at HSF
       clear hPf
       have hlp := layN_parts S0 at_ Pf (by rw [HPF.out.2.1]; exact HPF.out.2.2.2)
       rw [← HSF.out, HPF.out.2.1] at hlp
       have HLP := Aside0.mk hlp
       clear hlp
       obtain ⟨AE, hAE⟩ : ∃ AE : Int, AE = ((at_ + j : Nat) : Int) := ⟨_, rfl⟩
       obtain ⟨AF, hAF⟩ : ∃ AF : Int, AF = ((at_ + (j + 2) : Nat) : Int) := ⟨_, rfl⟩
       have HAEF := Aside0.mk (aef HAT2.out hAE hAF (show at_ + j < 1000 from by have := HATL.out; have := HNP2.out; omega))
       have wae := HAEF.out.1
       have wae2 := HAEF.out.2.1
       have waf := HAEF.out.2.2.1
       have waf2 := HAEF.out.2.2.2
       have h20 : 20 ≤ n5 := by have := HN6.out; omega
       obtain ⟨hr1, hq1⟩ := to_cut (A := A18) (n := n5) (c := c18) 20 20 rfl h20 HCC.out.1
       obtain ⟨hr2, hq2⟩ := to_cut (A := A7) (n := n5) (c := c7) 20 20 rfl h20 HCC.out.2
       obtain ⟨A20, c20, hc20, hr20, hq20⟩ := mid_cut (A := A18) (n := n5) (c := c18) at_ (at_ + j) AT AE HAT2.out hAE (Nat.le_add_right _ _) (by have := HPF.out.2.2.1; omega) HCC.out.1
       obtain ⟨A21, c21, hc21, hr21, hq21⟩ := from_cut (A := A18) (n := n5) (c := c18) (at_ + (j + 2)) AF hAF HPF.out.2.2.1 HCC.out.1
       obtain ⟨A22, c22, hc22, hr22, hq22⟩ := from_cut (A := A7) (n := n5) (c := c7) (at_ + (j + 2)) AF hAF HPF.out.2.2.1 HCC.out.2
       rw [Nat.add_sub_cancel_left] at hc20 hr20 hq20
       obtain ⟨nt, hnt⟩ : ∃ nt, nt = n5 - (at_ + (j + 2)) := ⟨_, rfl⟩
       rw [← hnt] at hc21 hr21 hq21 hc22 hr22 hq22
       have HSA := Aside0.mk (fun (W1 : World) (h : Below w18.heap.size w18 W1) => same_eq A18 c18 20 (SF.take 20) A7 c7 (S0.take 20) W1 (by
        have h1 : SF.take 20 = (SF.take at_).take 20 := by rw [List.take_take, Nat.min_eq_left (by have := HATT.out; omega)]
        rw [h1, HLP.out.1, HS0.out, sideW_zeros sd 20 (by decide), List.take_replicate, Nat.min_eq_left (by have := HATT.out; omega)]) (by rw [List.length_take, HSFL.out]; omega) (hq1 W1 SF HSFL.out (HCN.out W1 h)) (by have := HCC.out.1; omega) (hq2 W1 S0 HN5.out.symm (HCS.out W1 h)) (by have := HCC.out.2; omega) (by decide))
       have HSB := Aside0.mk (fun (W1 : World) (h : Below w18.heap.size w18 W1) => same_eq A20 c20 j ((SF.take (at_ + j)).drop at_) (some ⟨gP, 0, none⟩) cP P W1 (mid_eq HSF.out HPF.out.1 HNP.out) (by rw [mid_eq HSF.out HPF.out.1 HNP.out]; exact HNP.out.symm) (hq20 W1 SF HSFL.out (HCN.out W1 h)) hc20 (HCP.out.2 W1 h) HCP.out.1 (by have := HNP2.out; omega))
       have HSE := Aside0.mk (fun (W1 : World) (h : Below w18.heap.size w18 W1) => same_eq A21 c21 nt (SF.drop (at_ + (j + 2))) A22 c22 (S0.drop (at_ + (j + 2))) W1 HLP.out.2.2 (by rw [List.length_drop, HSFL.out, hnt]) (hq21 W1 SF HSFL.out (HCN.out W1 h)) hc21 (hq22 W1 S0 HN5.out.symm (HCS.out W1 h)) hc22 (by rw [hnt]; have := HN6.out; omega))
       have HAF := Aside0.mk hAF
       clear hAE hAF h20 hq1 hq2 hq20 hq21 hq22 hc20 hc21 hc22 hnt
       go_wp2_with fail
       refine start_ (n := 45) (S := fun w' => True) (ds := []) #[false, false, false, false, false, false, false, false, false, false, false, false, false, false, false, false, false, false, false, false, false, false, false, false, false, false, false, false, false, false, false, false, false, false, false, false, false, false, false, false, false, false, false, false, false] (by kernel_rfl) rfl rfl trivial (fun hHeld => ?_)
       refine pure_ (i := 0) (N := some 106) (v := ?_) (a' := ?_) #[true, false, false, false, false, false, false, false, false, false, false, false, false, false, false, false, false, false, false, false, false, false, false, false, false, false, false, false, false, false, false, false, false, false, false, false, false, false, false, false, false, false, false, false, false] rfl rfl (by kernel_rfl) (fun _ _ _ h => h) (Or.inl ⟨by rfl, ?_⟩) ?_ ?_
       rotate_left
       ·intro w'
        go_simp
        with_reducible rfl
       rotate_left
       ·simp only [Act.put, List.setIfInBounds_toArray, List.set_cons_zero, List.set_cons_succ, i64_w, i32_w]
        rfl
       refine pure_ (i := 1) (N := some 107) (v := ?_) (a' := ?_) #[true, true, false, false, false, false, false, false, false, false, false, false, false, false, false, false, false, false, false, false, false, false, false, false, false, false, false, false, false, false, false, false, false, false, false, false, false, false, false, false, false, false, false, false, false] rfl rfl (by kernel_rfl) (fun _ _ _ h => h) (Or.inl ⟨by rfl, ?_⟩) ?_ ?_
       rotate_left
       ·intro w'
        go_simp
        with_reducible rfl
       rotate_left
       ·simp only [Act.put, List.setIfInBounds_toArray, List.set_cons_zero, List.set_cons_succ, i64_w, i32_w]
        rfl
       refine pure_ (i := 2) (N := some 108) (v := ?_) (a' := ?_) #[true, true, true, false, false, false, false, false, false, false, false, false, false, false, false, false, false, false, false, false, false, false, false, false, false, false, false, false, false, false, false, false, false, false, false, false, false, false, false, false, false, false, false, false, false] rfl rfl (by kernel_rfl) (fun _ _ _ h => h) (Or.inl ⟨by rfl, ?_⟩) ?_ ?_
       rotate_left
       ·intro w'
        go_simp
        with_reducible rfl
       rotate_left
       ·simp only [Act.put, List.setIfInBounds_toArray, List.set_cons_zero, List.set_cons_succ, i64_w, i32_w]
        rfl
       refine pure_ (i := 3) (N := some 109) (v := ?_) (a' := ?_) #[true, true, true, true, false, false, false, false, false, false, false, false, false, false, false, false, false, false, false, false, false, false, false, false, false, false, false, false, false, false, false, false, false, false, false, false, false, false, false, false, false, false, false, false, false] rfl rfl (by kernel_rfl) (fun _ _ _ h => h) (Or.inl ⟨by rfl, ?_⟩) ?_ ?_
       rotate_left
       ·intro w'
        go_simp
        with_reducible rfl
       rotate_left
       ·simp only [Act.put, List.setIfInBounds_toArray, List.set_cons_zero, List.set_cons_succ, i64_w, i32_w]
        rfl
       refine pure_ (i := 4) (N := some 110) (v := ?_) (a' := ?_) #[true, true, true, true, true, false, false, false, false, false, false, false, false, false, false, false, false, false, false, false, false, false, false, false, false, false, false, false, false, false, false, false, false, false, false, false, false, false, false, false, false, false, false, false, false] rfl rfl (by kernel_rfl) (fun _ _ _ h => h) (Or.inl ⟨by rfl, ?_⟩) ?_ ?_
       rotate_left
       ·intro w'
        go_simp
        with_reducible rfl
       rotate_left
       ·simp only [Act.put, List.setIfInBounds_toArray, List.set_cons_zero, List.set_cons_succ, i64_w, i32_w]
        rfl
       refine pure_ (i := 5) (N := some 111) (v := ?_) (a' := ?_) #[true, true, true, true, true, true, false, false, false, false, false, false, false, false, false, false, false, false, false, false, false, false, false, false, false, false, false, false, false, false, false, false, false, false, false, false, false, false, false, false, false, false, false, false, false] rfl rfl (by kernel_rfl) (fun _ _ _ h => h) (Or.inl ⟨by rfl, ?_⟩) ?_ ?_
       rotate_left
       ·intro w'
        go_simp
        with_reducible rfl
       rotate_left
       ·simp only [Act.put, List.setIfInBounds_toArray, List.set_cons_zero, List.set_cons_succ, i64_w, i32_w]
        rfl
       refine pure_ (i := 6) (N := some 112) (v := ?_) (a' := ?_) #[true, true, true, true, true, true, true, false, false, false, false, false, false, false, false, false, false, false, false, false, false, false, false, false, false, false, false, false, false, false, false, false, false, false, false, false, false, false, false, false, false, false, false, false, false] rfl rfl (by kernel_rfl) (fun _ _ _ h => h) (Or.inl ⟨by rfl, ?_⟩) ?_ ?_
       rotate_left
       ·intro w'
        go_simp
        with_reducible rfl
       rotate_left
       ·simp only [Act.put, List.setIfInBounds_toArray, List.set_cons_zero, List.set_cons_succ, i64_w, i32_w]
        rfl
       refine pure_ (i := 7) (N := some 113) (v := ?_) (a' := ?_) #[true, true, true, true, true, true, true, true, false, false, false, false, false, false, false, false, false, false, false, false, false, false, false, false, false, false, false, false, false, false, false, false, false, false, false, false, false, false, false, false, false, false, false, false, false] rfl rfl (by kernel_rfl) (fun _ _ _ h => h) (Or.inl ⟨by rfl, ?_⟩) ?_ ?_
       rotate_left
       ·intro w'
        go_simp
        with_reducible rfl
       rotate_left
       ·simp only [Act.put, List.setIfInBounds_toArray, List.set_cons_zero, List.set_cons_succ, i64_w, i32_w]
        rfl
       refine pure_ (i := 8) (N := some 114) (v := ?_) (a' := ?_) #[true, true, true, true, true, true, true, true, true, false, false, false, false, false, false, false, false, false, false, false, false, false, false, false, false, false, false, false, false, false, false, false, false, false, false, false, false, false, false, false, false, false, false, false, false] rfl rfl (by kernel_rfl) (fun _ _ _ h => h) (Or.inl ⟨by rfl, ?_⟩) ?_ ?_
       rotate_left
       ·intro w'
        go_simp
        with_reducible rfl
       rotate_left
       ·simp only [Act.put, List.setIfInBounds_toArray, List.set_cons_zero, List.set_cons_succ, i64_w, i32_w]
        rfl
       refine pure_ (i := 9) (N := some 115) (v := ?_) (a' := ?_) #[true, true, true, true, true, true, true, true, true, true, false, false, false, false, false, false, false, false, false, false, false, false, false, false, false, false, false, false, false, false, false, false, false, false, false, false, false, false, false, false, false, false, false, false, false] rfl rfl (by kernel_rfl) (fun _ _ _ h => h) (Or.inl ⟨by rfl, ?_⟩) ?_ ?_
       rotate_left
       ·intro w'
        go_simp
        with_reducible rfl
       rotate_left
       ·simp only [Act.put, List.setIfInBounds_toArray, List.set_cons_zero, List.set_cons_succ, i64_w, i32_w]
        rfl
       refine pure_ (i := 10) (N := some 116) (v := ?_) (a' := ?_) #[true, true, true, true, true, true, true, true, true, true, true, false, false, false, false, false, false, false, false, false, false, false, false, false, false, false, false, false, false, false, false, false, false, false, false, false, false, false, false, false, false, false, false, false, false] rfl rfl (by kernel_rfl) (fun _ _ _ h => h) (Or.inl ⟨by rfl, ?_⟩) ?_ ?_
       rotate_left
       ·intro w'
        go_simp
        with_reducible rfl
       rotate_left
       ·simp only [Act.put, List.setIfInBounds_toArray, List.set_cons_zero, List.set_cons_succ, i64_w, i32_w]
        rfl
       refine pure_ (i := 11) (N := some 117) (v := ?_) (a' := ?_) #[true, true, true, true, true, true, true, true, true, true, true, true, false, false, false, false, false, false, false, false, false, false, false, false, false, false, false, false, false, false, false, false, false, false, false, false, false, false, false, false, false, false, false, false, false] rfl rfl (by kernel_rfl) (fun _ _ _ h => h) (Or.inl ⟨by rfl, ?_⟩) ?_ ?_
       rotate_left
       ·intro w'
        go_simp
        with_reducible rfl
       rotate_left
       ·simp only [Act.put, List.setIfInBounds_toArray, List.set_cons_zero, List.set_cons_succ, i64_w, i32_w]
        rfl
       refine one_ (i := 12) (N := some 118) #[true, true, true, true, true, true, true, true, true, true, true, true, true, false, false, false, false, false, false, false, false, false, false, false, false, false, false, false, false, false, false, false, false, false, false, false, false, false, false, false, false, false, false, false, false] rfl rfl (by kernel_rfl) (by decide) (fun K hK => ?_)
       refine goes_ Tryd.func23 (by kernel_rfl) rfl #[.slice A18 20 c18, .slice A7 20 c7] (by rfl) rfl rfl (by simp only [List.map_toArray, List.map_cons, List.map_nil]; rfl) ?_
       with_reducible refine (HSA.out _ (by repeat (first | exact Below.refl _ _ | apply pw_below_drewN | apply below_drew1))).mono ?_
       rintro e w19 ⟨rfl, n19, rfl⟩
       refine ⟨_, rfl, ?_⟩
       refine hK.out _ _ trivial (fun hHeld => ?_)
       clear hK K
       refine norm_ (a' := ?_) ?_ ?_
       rotate_left
       ·show Act.put _ (some 118) _ = _
        simp only [Act.put, List.setIfInBounds_toArray, List.set_cons_zero, List.set_cons_succ, i64_w, i32_w]
        rfl
       refine pure_ (i := 13) (N := some 119) (v := ?_) (a' := ?_) #[true, true, true, true, true, true, true, true, true, true, true, true, true, true, false, false, false, false, false, false, false, false, false, false, false, false, false, false, false, false, false, false, false, false, false, false, false, false, false, false, false, false, false, false, false] rfl rfl (by kernel_rfl) (fun _ _ _ h => h) (Or.inl ⟨by rfl, ?_⟩) ?_ ?_
       rotate_left
       ·intro w'
        go_simp
        with_reducible rfl
       rotate_left
       ·simp only [Act.put, List.setIfInBounds_toArray, List.set_cons_zero, List.set_cons_succ, i64_w, i32_w]
        rfl
       refine pure_ (i := 14) (N := some 120) (v := ?_) (a' := ?_) #[true, true, true, true, true, true, true, true, true, true, true, true, true, true, true, false, false, false, false, false, false, false, false, false, false, false, false, false, false, false, false, false, false, false, false, false, false, false, false, false, false, false, false, false, false] rfl rfl (by kernel_rfl) (fun _ _ _ h => h) (Or.inl ⟨by rfl, ?_⟩) ?_ ?_
       rotate_left
       ·intro w'
        go_simp
        with_reducible rfl
       rotate_left
       ·simp only [Act.put, List.setIfInBounds_toArray, List.set_cons_zero, List.set_cons_succ, i64_w, i32_w]
        rfl
       refine pure_ (i := 15) (N := some 121) (v := ?_) (a' := ?_) #[true, true, true, true, true, true, true, true, true, true, true, true, true, true, true, true, false, false, false, false, false, false, false, false, false, false, false, false, false, false, false, false, false, false, false, false, false, false, false, false, false, false, false, false, false] rfl rfl (by kernel_rfl) (fun _ _ _ h => h) (Or.inl ⟨by rfl, ?_⟩) ?_ ?_
       rotate_left
       ·intro w'
        go_simp
        with_reducible rfl
       rotate_left
       ·simp only [Act.put, List.setIfInBounds_toArray, List.set_cons_zero, List.set_cons_succ, i64_w, i32_w]
        rfl
       refine pure_ (i := 16) (N := some 122) (v := ?_) (a' := ?_) #[true, true, true, true, true, true, true, true, true, true, true, true, true, true, true, true, true, false, false, false, false, false, false, false, false, false, false, false, false, false, false, false, false, false, false, false, false, false, false, false, false, false, false, false, false] rfl rfl (by kernel_rfl) (fun _ _ _ h => h) (Or.inl ⟨by rfl, ?_⟩) ?_ ?_
       rotate_left
       ·intro w'
        go_simp
        with_reducible rfl
       rotate_left
       ·simp only [Act.put, List.setIfInBounds_toArray, List.set_cons_zero, List.set_cons_succ, i64_w, i32_w]
        rfl
       refine pure_ (i := 17) (N := some 123) (v := ?_) (a' := ?_) #[true, true, true, true, true, true, true, true, true, true, true, true, true, true, true, true, true, true, false, false, false, false, false, false, false, false, false, false, false, false, false, false, false, false, false, false, false, false, false, false, false, false, false, false, false] rfl rfl (by kernel_rfl) (fun _ _ _ h => h) (Or.inl ⟨by rfl, ?_⟩) ?_ ?_
       rotate_left
       ·intro w'
        go_simp
        with_reducible rfl
       rotate_left
       ·simp only [Act.put, List.setIfInBounds_toArray, List.set_cons_zero, List.set_cons_succ, i64_w, i32_w]
        rfl
       refine pure_ (i := 18) (N := some 124) (v := ?_) (a' := ?_) #[true, true, true, true, true, true, true, true, true, true, true, true, true, true, true, true, true, true, true, false, false, false, false, false, false, false, false, false, false, false, false, false, false, false, false, false, false, false, false, false, false, false, false, false, false] rfl rfl (by kernel_rfl) (fun _ _ _ h => h) (Or.inl ⟨by rfl, ?_⟩) ?_ ?_
       rotate_left
       ·intro w'
        go_simp
        with_reducible rfl
       rotate_left
       ·simp only [Act.put, List.setIfInBounds_toArray, List.set_cons_zero, List.set_cons_succ, i64_w, i32_w]
        rfl
       refine pure_ (i := 19) (N := some 125) (v := ?_) (a' := ?_) #[true, true, true, true, true, true, true, true, true, true, true, true, true, true, true, true, true, true, true, true, false, false, false, false, false, false, false, false, false, false, false, false, false, false, false, false, false, false, false, false, false, false, false, false, false] rfl rfl (by kernel_rfl) (fun _ _ _ h => h) (Or.inl ⟨by rfl, ?_⟩) ?_ ?_
       rotate_left
       ·intro w'
        go_simp
        with_reducible rfl
       rotate_left
       ·simp only [Act.put, List.setIfInBounds_toArray, List.set_cons_zero, List.set_cons_succ, i64_w, i32_w]
        rfl
       refine pure_ (i := 20) (N := some 126) (v := ?_) (a' := ?_) #[true, true, true, true, true, true, true, true, true, true, true, true, true, true, true, true, true, true, true, true, true, false, false, false, false, false, false, false, false, false, false, false, false, false, false, false, false, false, false, false, false, false, false, false, false] rfl rfl (by kernel_rfl) (fun _ _ _ h => h) (Or.inl ⟨by rfl, ?_⟩) ?_ ?_
       rotate_left
       ·intro w'
        go_simp
        with_reducible rfl
       rotate_left
       ·simp only [Act.put, List.setIfInBounds_toArray, List.set_cons_zero, List.set_cons_succ, i64_w, i32_w]
        rfl
       refine pure_ (i := 21) (N := some 127) (v := ?_) (a' := ?_) #[true, true, true, true, true, true, true, true, true, true, true, true, true, true, true, true, true, true, true, true, true, true, false, false, false, false, false, false, false, false, false, false, false, false, false, false, false, false, false, false, false, false, false, false, false] rfl rfl (by kernel_rfl) (fun _ _ _ h => h) (Or.inl ⟨by rfl, ?_⟩) ?_ ?_
       rotate_left
       ·intro w'
        go_simp
        with_reducible rfl
       rotate_left
       ·simp only [Act.put, List.setIfInBounds_toArray, List.set_cons_zero, List.set_cons_succ, i64_w, i32_w]
        rfl
       refine pure_ (i := 22) (N := some 128) (v := ?_) (a' := ?_) #[true, true, true, true, true, true, true, true, true, true, true, true, true, true, true, true, true, true, true, true, true, true, true, false, false, false, false, false, false, false, false, false, false, false, false, false, false, false, false, false, false, false, false, false, false] rfl rfl (by kernel_rfl) (fun _ _ _ h => h) (Or.inl ⟨by rfl, ?_⟩) ?_ ?_
       rotate_left
       ·intro w'
        go_simp
        with_reducible rfl
       rotate_left
       ·simp only [Act.put, List.setIfInBounds_toArray, List.set_cons_zero, List.set_cons_succ, i64_w, i32_w]
        rfl
       refine pure_ (i := 23) (N := some 129) (v := ?_) (a' := ?_) #[true, true, true, true, true, true, true, true, true, true, true, true, true, true, true, true, true, true, true, true, true, true, true, true, false, false, false, false, false, false, false, false, false, false, false, false, false, false, false, false, false, false, false, false, false] rfl rfl (by kernel_rfl) (fun _ _ _ h => h) (Or.inl ⟨by rfl, ?_⟩) ?_ ?_
       rotate_left
       ·intro w'
        go_simp
        with_reducible rfl
       rotate_left
       ·simp only [Act.put, List.setIfInBounds_toArray, List.set_cons_zero, List.set_cons_succ, i64_w, i32_w]
        rfl
       refine one_ (i := 24) (N := some 130) #[true, true, true, true, true, true, true, true, true, true, true, true, true, true, true, true, true, true, true, true, true, true, true, true, true, false, false, false, false, false, false, false, false, false, false, false, false, false, false, false, false, false, false, false, false] rfl rfl (by kernel_rfl) (by decide) (fun K hK => ?_)
       refine goes_ Tryd.func23 (by kernel_rfl) rfl #[.slice A20 j c20, .slice (some ⟨gP, 0, none⟩) j cP] (by rfl) rfl rfl (by simp only [List.map_toArray, List.map_cons, List.map_nil]; rfl) ?_
       with_reducible refine (HSB.out _ (by repeat (first | exact Below.refl _ _ | apply pw_below_drewN | apply below_drew1))).mono ?_
       rintro e w20 ⟨rfl, n20, rfl⟩
       refine ⟨_, rfl, ?_⟩
       refine hK.out _ _ trivial (fun hHeld => ?_)
       clear hK K
       refine norm_ (a' := ?_) ?_ ?_
       rotate_left
       ·show Act.put _ (some 130) _ = _
        simp only [Act.put, List.setIfInBounds_toArray, List.set_cons_zero, List.set_cons_succ, i64_w, i32_w]
        rfl
       refine pure_ (i := 25) (N := some 131) (v := ?_) (a' := ?_) #[true, true, true, true, true, true, true, true, true, true, true, true, true, true, true, true, true, true, true, true, true, true, true, true, true, true, false, false, false, false, false, false, false, false, false, false, false, false, false, false, false, false, false, false, false] rfl rfl (by kernel_rfl) (fun _ _ _ h => h) (Or.inl ⟨by rfl, ?_⟩) ?_ ?_
       rotate_left
       ·intro w'
        go_simp
        with_reducible rfl
       rotate_left
       ·simp only [Act.put, List.setIfInBounds_toArray, List.set_cons_zero, List.set_cons_succ, i64_w, i32_w]
        rfl
       refine pure_ (i := 26) (N := some 132) (v := ?_) (a' := ?_) #[true, true, true, true, true, true, true, true, true, true, true, true, true, true, true, true, true, true, true, true, true, true, true, true, true, true, true, false, false, false, false, false, false, false, false, false, false, false, false, false, false, false, false, false, false] rfl rfl (by kernel_rfl) (fun _ _ _ h => h) (Or.inl ⟨by rfl, ?_⟩) ?_ ?_
       rotate_left
       ·intro w'
        go_simp
        with_reducible rfl
       rotate_left
       ·simp only [Act.put, List.setIfInBounds_toArray, List.set_cons_zero, List.set_cons_succ, i64_w, i32_w]
        rfl
       refine pure_ (i := 27) (N := some 133) (v := ?_) (a' := ?_) #[true, true, true, true, true, true, true, true, true, true, true, true, true, true, true, true, true, true, true, true, true, true, true, true, true, true, true, true, false, false, false, false, false, false, false, false, false, false, false, false, false, false, false, false, false] rfl rfl (by kernel_rfl) (fun _ _ _ h => h) (Or.inl ⟨by rfl, ?_⟩) ?_ ?_
       rotate_left
       ·intro w'
        go_simp
        with_reducible rfl
       rotate_left
       ·simp only [Act.put, List.setIfInBounds_toArray, List.set_cons_zero, List.set_cons_succ, i64_w, i32_w]
        rfl
       refine pure_ (i := 28) (N := some 134) (v := ?_) (a' := ?_) #[true, true, true, true, true, true, true, true, true, true, true, true, true, true, true, true, true, true, true, true, true, true, true, true, true, true, true, true, true, false, false, false, false, false, false, false, false, false, false, false, false, false, false, false, false] rfl rfl (by kernel_rfl) (fun _ _ _ h => h) (Or.inl ⟨by rfl, ?_⟩) ?_ ?_
       rotate_left
       ·intro w'
        go_simp
        with_reducible rfl
       rotate_left
       ·simp only [Act.put, List.setIfInBounds_toArray, List.set_cons_zero, List.set_cons_succ, i64_w, i32_w]
        rfl
       refine pure_ (i := 29) (N := some 135) (v := ?_) (a' := ?_) #[true, true, true, true, true, true, true, true, true, true, true, true, true, true, true, true, true, true, true, true, true, true, true, true, true, true, true, true, true, true, false, false, false, false, false, false, false, false, false, false, false, false, false, false, false] rfl rfl (by kernel_rfl) (fun _ _ _ h => h) (Or.inl ⟨by rfl, ?_⟩) ?_ ?_
       rotate_left
       ·intro w'
        go_simp
        with_reducible rfl
       rotate_left
       ·simp only [Act.put, List.setIfInBounds_toArray, List.set_cons_zero, List.set_cons_succ, i64_w, i32_w]
        rfl
       refine pure_ (i := 30) (N := some 136) (v := ?_) (a' := ?_) #[true, true, true, true, true, true, true, true, true, true, true, true, true, true, true, true, true, true, true, true, true, true, true, true, true, true, true, true, true, true, true, false, false, false, false, false, false, false, false, false, false, false, false, false, false] rfl rfl (by kernel_rfl) (fun _ _ _ h => h) (Or.inl ⟨by rfl, ?_⟩) ?_ ?_
       rotate_left
       ·intro w'
        go_simp
        with_reducible rfl
       rotate_left
       ·simp only [Act.put, List.setIfInBounds_toArray, List.set_cons_zero, List.set_cons_succ, i64_w, i32_w]
        rfl
       refine pure_ (i := 31) (N := some 137) (v := ?_) (a' := ?_) #[true, true, true, true, true, true, true, true, true, true, true, true, true, true, true, true, true, true, true, true, true, true, true, true, true, true, true, true, true, true, true, true, false, false, false, false, false, false, false, false, false, false, false, false, false] rfl rfl (by kernel_rfl) (fun _ _ _ h => h) (Or.inl ⟨by rfl, ?_⟩) ?_ ?_
       rotate_left
       ·intro w'
        go_simp
        with_reducible rfl
       rotate_left
       ·simp only [Act.put, List.setIfInBounds_toArray, List.set_cons_zero, List.set_cons_succ, i64_w, i32_w]
        rfl
       refine pure_ (i := 32) (N := some 138) (v := ?_) (a' := ?_) #[true, true, true, true, true, true, true, true, true, true, true, true, true, true, true, true, true, true, true, true, true, true, true, true, true, true, true, true, true, true, true, true, true, false, false, false, false, false, false, false, false, false, false, false, false] rfl rfl (by kernel_rfl) (fun _ _ _ h => h) (Or.inl ⟨by rfl, ?_⟩) ?_ ?_
       rotate_left
       ·intro w'
        go_simp
        with_reducible rfl
       rotate_left
       ·simp only [Act.put, List.setIfInBounds_toArray, List.set_cons_zero, List.set_cons_succ, i64_w, i32_w]
        rfl
       refine pure_ (i := 33) (N := some 139) (v := ?_) (a' := ?_) #[true, true, true, true, true, true, true, true, true, true, true, true, true, true, true, true, true, true, true, true, true, true, true, true, true, true, true, true, true, true, true, true, true, true, false, false, false, false, false, false, false, false, false, false, false] rfl rfl (by kernel_rfl) (fun _ _ _ h => h) (Or.inl ⟨by rfl, ?_⟩) ?_ ?_
       rotate_left
       ·intro w'
        go_simp
        with_reducible rfl
       rotate_left
       ·simp only [Act.put, List.setIfInBounds_toArray, List.set_cons_zero, List.set_cons_succ, i64_w, i32_w]
        rfl
       refine pure_ (i := 34) (N := some 140) (v := ?_) (a' := ?_) #[true, true, true, true, true, true, true, true, true, true, true, true, true, true, true, true, true, true, true, true, true, true, true, true, true, true, true, true, true, true, true, true, true, true, true, false, false, false, false, false, false, false, false, false, false] rfl rfl (by kernel_rfl) (fun _ _ _ h => h) (Or.inl ⟨by rfl, ?_⟩) ?_ ?_
       rotate_left
       ·intro w'
        go_simp
        with_reducible rfl
       rotate_left
       ·simp only [Act.put, List.setIfInBounds_toArray, List.set_cons_zero, List.set_cons_succ, i64_w, i32_w]
        rfl
       refine pure_ (i := 35) (N := some 141) (v := ?_) (a' := ?_) #[true, true, true, true, true, true, true, true, true, true, true, true, true, true, true, true, true, true, true, true, true, true, true, true, true, true, true, true, true, true, true, true, true, true, true, true, false, false, false, false, false, false, false, false, false] rfl rfl (by kernel_rfl) (fun _ _ _ h => h) (Or.inl ⟨by rfl, ?_⟩) ?_ ?_
       rotate_left
       ·intro w'
        go_simp
        with_reducible rfl
       rotate_left
       ·simp only [Act.put, List.setIfInBounds_toArray, List.set_cons_zero, List.set_cons_succ, i64_w, i32_w]
        rfl
       refine pure_ (i := 36) (N := some 142) (v := ?_) (a' := ?_) #[true, true, true, true, true, true, true, true, true, true, true, true, true, true, true, true, true, true, true, true, true, true, true, true, true, true, true, true, true, true, true, true, true, true, true, true, true, false, false, false, false, false, false, false, false] rfl rfl (by kernel_rfl) (fun _ _ _ h => h) (Or.inl ⟨by rfl, ?_⟩) ?_ ?_
       rotate_left
       ·intro w'
        go_simp
        with_reducible rfl
       rotate_left
       ·simp only [Act.put, List.setIfInBounds_toArray, List.set_cons_zero, List.set_cons_succ, i64_w, i32_w]
        rfl
       refine pure_ (i := 37) (N := some 143) (v := ?_) (a' := ?_) #[true, true, true, true, true, true, true, true, true, true, true, true, true, true, true, true, true, true, true, true, true, true, true, true, true, true, true, true, true, true, true, true, true, true, true, true, true, true, false, false, false, false, false, false, false] rfl rfl (by kernel_rfl) (fun _ _ _ h => h) (Or.inl ⟨by rfl, ?_⟩) ?_ ?_
       rotate_left
       ·intro w'
        go_simp
        with_reducible rfl
       rotate_left
       ·simp only [Act.put, List.setIfInBounds_toArray, List.set_cons_zero, List.set_cons_succ, i64_w, i32_w]
        rfl
       refine pure_ (i := 38) (N := some 144) (v := ?_) (a' := ?_) #[true, true, true, true, true, true, true, true, true, true, true, true, true, true, true, true, true, true, true, true, true, true, true, true, true, true, true, true, true, true, true, true, true, true, true, true, true, true, true, false, false, false, false, false, false] rfl rfl (by kernel_rfl) (fun _ _ _ h => h) (Or.inl ⟨by rfl, ?_⟩) ?_ ?_
       rotate_left
       ·intro w'
        go_simp
        with_reducible rfl
       rotate_left
       ·simp only [Act.put, List.setIfInBounds_toArray, List.set_cons_zero, List.set_cons_succ, i64_w, i32_w]
        rfl
       refine pure_ (i := 39) (N := some 145) (v := ?_) (a' := ?_) #[true, true, true, true, true, true, true, true, true, true, true, true, true, true, true, true, true, true, true, true, true, true, true, true, true, true, true, true, true, true, true, true, true, true, true, true, true, true, true, true, false, false, false, false, false] rfl rfl (by kernel_rfl) (fun _ _ _ h => h) (Or.inl ⟨by rfl, ?_⟩) ?_ ?_
       rotate_left
       ·intro w'
        go_simp
        with_reducible rfl
       rotate_left
       ·simp only [Act.put, List.setIfInBounds_toArray, List.set_cons_zero, List.set_cons_succ, i64_w, i32_w]
        rfl
       refine pure_ (i := 40) (N := some 146) (v := ?_) (a' := ?_) #[true, true, true, true, true, true, true, true, true, true, true, true, true, true, true, true, true, true, true, true, true, true, true, true, true, true, true, true, true, true, true, true, true, true, true, true, true, true, true, true, true, false, false, false, false] rfl rfl (by kernel_rfl) (fun _ _ _ h => h) (Or.inl ⟨by rfl, ?_⟩) ?_ ?_
       rotate_left
       ·intro w'
        go_simp
        with_reducible rfl
       rotate_left
       ·simp only [Act.put, List.setIfInBounds_toArray, List.set_cons_zero, List.set_cons_succ, i64_w, i32_w]
        rfl
       refine pure_ (i := 41) (N := some 147) (v := ?_) (a' := ?_) #[true, true, true, true, true, true, true, true, true, true, true, true, true, true, true, true, true, true, true, true, true, true, true, true, true, true, true, true, true, true, true, true, true, true, true, true, true, true, true, true, true, true, false, false, false] rfl rfl (by kernel_rfl) (fun _ _ _ h => h) (Or.inl ⟨by rfl, ?_⟩) ?_ ?_
       rotate_left
       ·intro w'
        go_simp
        with_reducible rfl
       rotate_left
       ·simp only [Act.put, List.setIfInBounds_toArray, List.set_cons_zero, List.set_cons_succ, i64_w, i32_w]
        rfl
       refine one_ (i := 42) (N := some 148) #[true, true, true, true, true, true, true, true, true, true, true, true, true, true, true, true, true, true, true, true, true, true, true, true, true, true, true, true, true, true, true, true, true, true, true, true, true, true, true, true, true, true, true, false, false] rfl rfl (by kernel_rfl) (by decide) (fun K hK => ?_)
       refine goes_ Tryd.func23 (by kernel_rfl) rfl #[.slice A21 nt c21, .slice A22 nt c22] (by rfl) rfl rfl (by simp only [List.map_toArray, List.map_cons, List.map_nil]; rfl) ?_
       with_reducible refine (HSE.out _ (by repeat (first | exact Below.refl _ _ | apply pw_below_drewN | apply below_drew1))).mono ?_
       rintro e w21 ⟨rfl, n21, rfl⟩
       refine ⟨_, rfl, ?_⟩
       refine hK.out _ _ trivial (fun hHeld => ?_)
       clear hK K
       refine norm_ (a' := ?_) ?_ ?_
       rotate_left
       ·show Act.put _ (some 148) _ = _
        simp only [Act.put, List.setIfInBounds_toArray, List.set_cons_zero, List.set_cons_succ, i64_w, i32_w]
        rfl
       refine pure_ (i := 43) (N := some 149) (v := ?_) (a' := ?_) #[true, true, true, true, true, true, true, true, true, true, true, true, true, true, true, true, true, true, true, true, true, true, true, true, true, true, true, true, true, true, true, true, true, true, true, true, true, true, true, true, true, true, true, true, false] rfl rfl (by kernel_rfl) (fun _ _ _ h => h) (Or.inl ⟨by rfl, ?_⟩) ?_ ?_
       rotate_left
       ·intro w'
        go_simp
        with_reducible rfl
       rotate_left
       ·simp only [Act.put, List.setIfInBounds_toArray, List.set_cons_zero, List.set_cons_succ, i64_w, i32_w]
        rfl
       refine pure_ (i := 44) (N := some 150) (v := ?_) (a' := ?_) #[true, true, true, true, true, true, true, true, true, true, true, true, true, true, true, true, true, true, true, true, true, true, true, true, true, true, true, true, true, true, true, true, true, true, true, true, true, true, true, true, true, true, true, true, true] rfl rfl (by kernel_rfl) (fun _ _ _ h => h) (Or.inl ⟨by rfl, ?_⟩) ?_ ?_
       rotate_left
       ·intro w'
        go_simp
        with_reducible rfl
       rotate_left
       ·simp only [Act.put, List.setIfInBounds_toArray, List.set_cons_zero, List.set_cons_succ, i64_w, i32_w]
        rfl
       refine done_ (by kernel_rfl) ?_
       clear hr1 hr2 hr20 hr21 hr22 HSA HSB HSE wae wae2 waf waf2
       obtain ⟨A23, c23, hc23, hr23, hq23⟩ := mid_cut (A := A18) (n := n5) (c := c18) 20 at_ 20 AT rfl HAT2.out (by have := HATT.out; omega) (by have := HPF.out.2.2.1; omega) HCC.out.1
       rw [show at_ - 20 = i from by have := HATT.out; omega] at hc23 hr23 hq23
       have HC23 := Aside0.mk (fun (W1 : World) (h : Below w18.heap.size w18 W1) => hq23 W1 SF HSFL.out (HCN.out W1 h))
       rw [HLP.out.1, List.drop_replicate, show at_ - 20 = i from by have := HATT.out; omega] at HC23
       clear hc23 hq23
       go_wp2_with fail
       clear hr23
       obtain ⟨GI, hGI⟩ : ∃ GI : Int, GI = (i : Int) := ⟨_, rfl⟩
       have HGI2 := Aside0.mk hGI
       rw [← hGI]
       clear hGI
       go_loopg [156] i (fun kq v156 w' => ∃ (q : Nat), v156 = .int .i64 (q : Int) ∧ Aside0 ((q : Int) + kq = GI) ∧ Aside0 (Below w18.heap.size w18 w'))
       case atStart => exact ⟨0, rfl, ⟨by have := HGI2.out; omega⟩, ⟨by repeat (first | exact Below.refl _ _ | apply pw_below_drewN | apply below_drew1)⟩⟩
       case round =>
        obtain ⟨q, rfl, HI, HB⟩ := hrel
        by_cases hlt : (q : Int) < GI
        ·have d1 : decide ((q : Int) < GI) = true := decide_eq_true hlt
         have hq : q < i := by have := HGI2.out; omega
         have e1 : wrap64 ((q : Int) + 1) = ((q + 1 : Nat) : Int) := w1n q (by have := HG.out; omega)
         have HQL := Aside0.mk hlt
         obtain ⟨ad, ea, hx⟩ := Kd.at_int (HC23.out _ HB.out) (q : Int) (by omega) (by omega)
         subst ea
         rw [Int.toNat_natCast, cst_rd, show (List.replicate i 0).getD q 0 = 0 from by rw [List.getD_eq_getElem?_getD, List.getElem?_replicate, if_pos hq]; rfl] at hx
         have hx' : wr.cell? (ad.add q) = some (.int .u8 0) := hx
         have q5 : (q < i) = True := eq_true hq
         clear hx hq hlt
         go_wp2
         go_roundg (gk - 1)
         case measure => have := HI.out; have := HQL.out; omega
         case rel => exact ⟨q + 1, by first | rfl | (congr 1), ⟨by have := HI.out; have := HQL.out; push_cast; omega⟩, HB⟩
        ·have d1 : decide ((q : Int) < GI) = false := decide_eq_false hlt
         clear hlt HI
         obtain ⟨n9, hn9⟩ : ∃ n9, n9 = at_ + (j + 2) := ⟨_, rfl⟩
         obtain ⟨hr9, hq9⟩ := to_cut (A := A18) (n := n5) (c := c18) n9 AF (by rw [hn9]; exact HAF.out) (by rw [hn9]; exact HPF.out.2.2.1) HCC.out.1
         have wae := HAEF.out.1
         have waf := HAEF.out.2.2.1
         obtain ⟨S2, hS2⟩ : ∃ S2, S2 = SF.take n9 := ⟨_, rfl⟩
         have HS2 := Aside0.mk (show S2 = List.replicate at_ 0 ++ Pf ∧ S2.length = n9 ∧ n9 = at_ + (j + 2) ∧ n9 ≤ n5 ∧ small S2 from ⟨by rw [hS2, hn9]; exact HLP.out.2.1, by rw [hS2, List.length_take, HSFL.out]; have := HPF.out.2.2.1; omega, hn9, by rw [hn9]; exact HPF.out.2.2.1, by
          rw [hS2, HSF.out]
          refine small_take (layN_small HSM.out _ ?_) _
          rw [HPF.out.1]
          refine small_append HPS.out (fun x hx => ?_)
          simp only [List.mem_cons, List.not_mem_nil, or_false] at hx
          rcases hx with rfl | rfl
          ·exact HLH.out.2.2.1
          ·exact HLH.out.2.2.2⟩)
         have hC9 := hq9 wr SF HSFL.out (HCN.out wr HB.out)
         rw [← hS2] at hC9
         have hWw : W.heap.size ≤ wr.heap.size := Nat.le_trans B7.out.size (Nat.le_trans BJ.out.size HB.out.size)
         have hop := open_calls W.heap.size wr hWw A18 c18 (cst S2) (by rw [cst_length, HS2.out.2.1]; exact hC9) (by rw [cst_length, HS2.out.2.1]; have := HS2.out.2.2.2.1; have := HCC.out.1; omega) (by rw [cst_length, HS2.out.2.1, HS2.out.2.2.1]; omega) (by rw [cst_length, HS2.out.2.1]; have := HS2.out.2.2.2.1; have := HN6.out; omega)
         rw [cst_length, HS2.out.2.1] at hop
         have HOP := Aside0.mk hop
         have HWW := Aside0.mk hWw
         clear hop hq9 hC9 hS2 hn9 hWw
         go_wp2_with fail
         refine HOP.out.mono ?_
         rintro e w23 ⟨p2, rfl, hi2, hb, g1, g2, g3, gv⟩
         have HP2 := Aside0.mk (show ∀ i, Foot p2 i → wr.heap.size ≤ i from fun i e => by
          rcases e with e | e | e | e
          ·rw [e]; exact g1
          ·rw [e]; exact g2
          ·rw [e]; exact g3
          ·exact gv i e)
         have B23 := Aside0.mk hb
         have BZ := Aside0.mk (show Below zz w7 wr from below_to BJ.out (by have := BJ.out.size; rw [HZZ.out]; exact this) HB.out)
         have hz23 : Below zz w7 w23 := below_to BZ.out (by have := BZ.out.size; rw [HZZ.out]; exact this) hb
         have hput := put25_go hi2 Wave.okv0 ⟨by decide, by decide, ⟨by decide, by decide⟩, ⟨by decide, by decide⟩, by decide, by decide⟩ rfl rfl (fun e => by have h1 := congrArg List.length e; rw [cst_length, HS2.out.2.1, HS2.out.2.2.1, List.length_nil] at h1; omega) (by rw [cst_length, HS2.out.2.1]; have := HS2.out.2.2.2.1; have := HN6.out; omega) (small_u8 HS2.out.2.2.2.2) 5 ⟨by decide, by decide⟩ (by decide) (HMZ.out _ hz23)
         rw [cmd5 aI 0 0 ⟨rfl, rfl, rfl, rfl, rfl, rfl, rfl, rfl, rfl, rfl⟩] at hput
         obtain ⟨qq, hqq⟩ : ∃ qq : List Nat, qq = (4 :: dn) ++ [lo, hi] := ⟨_, rfl⟩
         have hPq : Pf = 128 :: (qq ++ []) := by rw [HPF.out.1, HPD.out, hqq]; simp
         have hqs : small qq := by
          rw [hqq]
          refine small_append (fun x hx => HPS.out x (by rw [HPD.out]; exact List.mem_cons_of_mem _ hx)) (fun x hx => ?_)
          simp only [List.mem_cons, List.not_mem_nil, or_false] at hx
          rcases hx with rfl | rfl
          ·exact HLH.out.2.2.1
          ·exact HLH.out.2.2.2
         have hql : qq.length = 1 + nd + 2 := by rw [hqq, List.length_append, List.length_cons, ← HND.out]; simp; omega
         have hah := ahead_of (S := S2) (k := 0) (z := at_) (q := qq) (rest := []) (by rw [List.drop_zero, HS2.out.1, hPq])
         have hsum : stpL (stp 32768 128) (cst qq) = 0 := by
          rw [stp_sum qq hqs]
          have h := PureR.sums_zero2 P
          rw [← HLH.out.1, ← HLH.out.2.1, show P ++ [lo, hi] = 128 :: qq from by rw [HPD.out, hqq]; rfl] at h
          rw [h]; rfl
         have hrd := read_to W.heap.size w23 p2 (cst S2) 0 at_ (1 + nd) 0 0 (hput.mono (fun e W' h => ⟨h.1, by rw [show T 0 = 0 from rfl]; exact h.2.1, h.2.2⟩)) hi2.low (Nat.le_trans HWW.out hb.size) hah.1 (by rw [hah.2.1]; decide) (by have := HATL.out; omega) (by have := HNP2.out; omega) (by rw [cst_length]; have := hah.2.2.2; rw [hql] at this; omega) (HMZ.out _ hz23) HGT.out.1 (HTZ.out _ hz23) HGT.out.2
         have hq1 : (List.drop (0 + at_ + 1) (cst S2)).take (1 + nd + 2) = cst qq := by have h1 := hah.2.2.1; rw [hql] at h1; exact h1
         have hq2 : (List.drop (0 + at_ + 1) (cst S2)).take (1 + nd) = cst (4 :: dn) := by
          have h1 : ((List.drop (0 + at_ + 1) (cst S2)).take (1 + nd + 2)).take (1 + nd) = (List.drop (0 + at_ + 1) (cst S2)).take (1 + nd) := by rw [List.take_take, Nat.min_eq_left (by omega)]
          rw [← h1, hq1, cst_take, hqq, List.take_append_of_le_length (by rw [List.length_cons, ← HND.out]; omega), List.take_of_length_le (by rw [List.length_cons, ← HND.out]; omega)]
         rw [hq1, hq2, hah.2.1, hsum, decide_eq_true rfl] at hrd
         obtain ⟨NR, hNR⟩ : ∃ NR : Int, NR = ((1 + nd : Nat) : Int) := ⟨_, rfl⟩
         rw [← hNR] at hrd
         have HRD := Aside0.mk hrd
         have wj : wrap64 ((j : Int) - 1) = NR := wjn HNP2.out.1 HNP2.out.2 hNR
         obtain ⟨A25, c25, hc25, hr25, hq25⟩ := from_cut (A := some ⟨gP, 0, none⟩) (n := j) (c := cP) 1 1 rfl (by have := HNP2.out; omega) HCP.out.1
         rw [show j - 1 = 1 + nd from by have := HNP2.out; omega] at hc25 hr25 hq25
         have HQ25 := Aside0.mk (And.intro hc25 hq25)
         clear hi2 hb g1 g2 g3 gv hz23 hput hPq hqs hql hah hsum hrd hq1 hq2 hNR hqq hc25 hq25 HOP wae waf hr9
         go_wp2_with fail
         refine HRD.out.mono ?_
         rintro e w24 ⟨⟨A26, c26, rfl, hc26, hC26⟩, _, ht⟩
         have B24 := Aside0.mk (over B23.out ht HP2.out (Nat.le_refl _))
         have BF24 := Aside0.mk (show Below w18.heap.size w18 w24 from below_to HB.out HB.out.size B24.out)
         have HC26 := Aside0.mk (And.intro hc26 hC26)
         have HSZ := Aside0.mk (fun (W1 : World) (h : Below w24.heap.size w24 W1) => same_eq A26 c26 (1 + nd) (4 :: dn) A25 c25 (P.drop 1) W1 (by rw [HPD.out]; rfl) (by rw [List.length_cons, ← HND.out]; omega) (Kd.C_below HC26.out.2 h) HC26.out.1 (HQ25.out.2 W1 P HNP.out.symm (HCP.out.2 W1 (below_to BF24.out BF24.out.size h))) HQ25.out.1 (by have := HNP2.out; omega))
         clear hc26 hC26 ht HRD wj
         go_wp2_with fail
         refine (HSZ.out _ (by repeat (first | exact Below.refl _ _ | apply pw_below_drewN | apply below_drew1))).mono ?_
         rintro e w25 ⟨rfl, n25, rfl⟩
         have BEND := Aside0.mk (show Below W.heap.size W w24 from B7.out.trans ((below_to BZ.out (by have := BZ.out.size; rw [HZZ.out]; exact this) B24.out).mono (by rw [HZZ.out]; exact B7.out.size)))
         go_wp2
         go_ret
         exact ⟨rfl, by repeat (first | exact BEND.out | apply pw_below_drewN | apply below_drew1)⟩
theorem writes_walk2 (A : Option Addr) (c : Nat) (d : List Int) (A' : Option Addr) (c' : Nat) (l : List (List Int)) (gap : Int) (W : World) (hm : Wave.MS W) (hts : Wave.TS W) (hgm : 0 < W.heap.size) (hg : 1 < W.heap.size)
  (hC0 : (Kd.int .u8).C W A d.length d) (hc0 : d.length ≤ c) (hl0 : d.length ≤ 9223372036854775807) (hw0 : ∀ x ∈ d, 0 ≤ x ∧ x < 256)
  (hC : (Kd.slice 5 (Kd.int .u8)).C W A' l.length l) (hc : l.length ≤ c') (hlen : l.length ≤ 9223372036854775807) (hw : ∀ x ∈ l, x.length ≤ 9223372036854775807 ∧ ∀ n ∈ x, (Lit.int .u8 n).wf = true) (u : 0 ≤ gap ∧ gap < 256) :
  Calls Tryd.prog 8 #[.slice A d.length c, .slice A' l.length c', .int .u8 gap] W fun e W' => e = .returned (.bool true) ∧ Below W.heap.size W W' := by
 obtain ⟨L, rfl, h1, h2⟩ := rows_of l hw
 obtain ⟨D, rfl, h3⟩ := cst_of d (fun x hx => by
  have := hw0 x hx
  simp [Lit.wf, IntKind.min, IntKind.max, IntKind.signed, IntKind.bits]
  omega)
 exact writes_walk A c D A' c' L gap W hm hts hgm hg h3 (by rw [cst_length] at hl0; exact hl0) hC0 hc0 h1 (by rw [List.length_map] at hlen; exact hlen) h2 u hC hc
end Go.Proofs.YtaiaapjlpbhlbaaDoor.Ada
