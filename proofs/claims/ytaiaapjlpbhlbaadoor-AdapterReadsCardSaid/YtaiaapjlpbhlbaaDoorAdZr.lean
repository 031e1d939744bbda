/-
  AdapterTimes: the timer. By the prover of this repo.
  A BYTE THAT PASSES: read, next, and the adapter's cycle whole. By the prover of this repo.
  A NIL ADAPTER; the drive's handle; a copy. By the prover of this repo.
  A CYCLE of an adapter whose drive runs; till a byte passes. By the prover of this repo.
  A BYTE PASSES, EXACTLY: the adapter under a running drive, from one byte to the next. By the prover of this repo.
  A BYTE THAT ASKS: the law's pull, by the registers alone. By the prover of this repo.
  A BLOCK IS READ, by the registers alone: the law's read. By the prover of this repo.
  AdapterReads: a disk is read by its registers, block by block. By the prover of this repo.
-/
import Derived.Test.YtaiaapjlpbhlbaaDoorAdZa
import Derived.Test.YtaiaapjlpbhlbaaDoorAdStep
import Derived.Test.YtaiaapjlpbhlbaaDoorDrvZ
import Derived.Laws.Rows
import Derived.Laws.Tables
import Derived.Deep.WholeRow
import Derived.Test.YtaiaapjlpbhlbaaDoorPureAdapterReads
namespace Go.Proofs.YtaiaapjlpbhlbaaDoor.Ada
open Go.RowKit Go.Proofs.YtaiaapjlpbhlbaaDoorW.PrintWords Go.Proofs.YtaiaapjlpbhlbaaDoorW.PrintLast Go.Proofs.YtaiaapjlpbhlbaaDoorW.PrintMore
set_option linter.unusedVariables false
set_option linter.unusedSimpArgs false
set_option maxRecDepth 20000
theorem clock0 (base : Nat) (W : World) (p : P) (a : A) (u : Wave.V) (h : Is base W p a d0 u) (hc : 0 ≤ a.count ∧ a.count < 65536) (hu : Wave.Okv u) (hts : Wave.TS W) (hgb : 1 < base) :
    Calls Tryd.prog 12 #[.pointer (some ⟨p.g, 0, none⟩)] W fun e W' => e = .returned (.tuple #[]) ∧ Is base W' p (tick a) d0 (Wave.clockV u) ∧ Turn base W W' (Foot p) := by
  have h1 := clock_none base W p a d0 u h hc hu hts hgb ⟨by decide, by decide, by decide, by decide⟩ rfl
  rwa [show (Drv.clk d0).1 = d0 from rfl] at h1
def stA (fr c : Int) (on rep exp : Bool) : A := ⟨fr, c, on, rep, exp, 1, 0, 0, 0, 0, false, false, 32768, 0⟩
theorem open0 : shutA a0 1 = stA 0 0 false false false := rfl
theorem shutD1 : shutD d0 1 = d0 := rfl
theorem shutD0 : shutD d0 0 = d0 := rfl
theorem tim2 (fr c : Int) (on rep exp : Bool) : timA (stA fr c on rep exp) 2 = stA fr fr true false exp := rfl
theorem tim3 (fr c : Int) (on rep exp : Bool) : timA (stA fr c on rep exp) 3 = stA fr fr true true exp := rfl
theorem tim0 (fr c : Int) (on rep exp : Bool) : timA (stA fr c on rep exp) 0 = stA fr c false false false := rfl
theorem tick_off (fr c : Int) (rep exp : Bool) : tick (stA fr c false rep exp) = stA fr c false rep exp := rfl
theorem tick_on {fr c : Int} (h : 0 < c) (rep exp : Bool) : tick (stA fr c true rep exp) = stA fr (c - 1) true rep exp := by
  unfold tick stA
  rw [if_neg (by simp), if_pos h]
theorem tick_end (fr : Int) (rep exp : Bool) : tick (stA fr 0 true rep exp) = stA fr fr rep rep true := rfl
theorem irqS (fr c : Int) (on rep exp : Bool) : irqB (stA fr c on rep exp) = exp := by cases exp <;> rfl
theorem oS (fr c : Int) (on rep exp : Bool) : U8 (stA fr c on rep exp).opn := ⟨by show (0 : Int) ≤ 1; decide, by show (1 : Int) < 256; decide⟩
theorem cS (fr c : Int) (on rep exp : Bool) : U8 (stA fr c on rep exp).ctl := ⟨by show (0 : Int) ≤ 0; decide, by show (0 : Int) < 256; decide⟩
theorem bS (fr c : Int) (on rep exp : Bool) : bit (stA fr c on rep exp).opn 1 = true := rfl
theorem next_mod (x p : Int) (hp : 0 < p) : (x + 1) % p = if x % p + 1 = p then 0 else x % p + 1 := by
  have h := Int.emod_add_mul_ediv x p
  have h0 := Int.emod_nonneg x (show p ≠ 0 by omega)
  have h1 := Int.emod_lt_of_pos x hp
  have e : (x + 1) % p = (x % p + 1) % p := by
    conv => lhs; rw [← h]
    rw [show x % p + p * (x / p) + 1 = x % p + 1 + p * (x / p) by omega, Int.add_mul_emod_self_left]
  rw [e]
  split
  · rename_i hh; rw [hh, Int.emod_self]
  · exact Int.emod_eq_of_lt (by omega) (by omega)
theorem plan (fr per c i : Int) (rep : Bool) (hp : per = fr + 1 ∧ 0 ≤ fr ∧ fr < 65536) (hi : 1 ≤ i) (hc : c = fr - (i - 1) % per) (hr : rep = true ∨ i ≤ per) :
    (0 ≤ c ∧ c < 65536) ∧ (0 < c → (i % per == 0) = false ∧ c - 1 = fr - (i + 1 - 1) % per ∧ (rep = true ∨ i + 1 ≤ per)) ∧ (¬ 0 < c → c = 0 ∧ (i % per == 0) = true ∧ (rep = true ∨ (i == per) = true ∧ per < i + 1) ∧ fr = fr - (i + 1 - 1) % per) := by
  obtain ⟨hp1, hp2, hp3⟩ := hp
  have nm := next_mod (i - 1) per (by omega)
  rw [show (i - 1 + 1 : Int) = i by omega] at nm
  rw [show (i + 1 - 1 : Int) = i by omega]
  have q0 := Int.emod_nonneg (i - 1) (show per ≠ 0 by omega)
  have q1 := Int.emod_lt_of_pos (i - 1) (show 0 < per by omega)
  have q2 : i ≤ per → (i - 1) % per = i - 1 := fun h => Int.emod_eq_of_lt (by omega) (by omega)
  generalize (i - 1) % per = q at *
  refine ⟨by omega, fun h => ?_, fun h => ?_⟩
  · rw [if_neg (by omega)] at nm
    refine ⟨by rw [beq_eq_false_iff_ne, nm]; omega, by rw [nm]; omega, hr.imp id (fun h => by have := q2 h; omega)⟩
  · rw [if_pos (by omega)] at nm
    refine ⟨by omega, by rw [nm]; rfl, hr.imp id (fun h => by have := q2 h; exact ⟨beq_iff_eq.2 (by omega), by omega⟩), by rw [nm]; omega⟩
set_option maxHeartbeats 8000000 in
theorem awake_calls (W : World) (hts : Wave.TS W) (hg : 1 < W.heap.size) :
    Calls Tryd.prog 9 #[] W fun e W' => e = .returned (.bool true) ∧ Below W.heap.size W W' := by
  have HTS := Aside0.mk (fun (W1 : World) (hb : Below W.heap.size W W1) => hts.below hb hg)
  have HG := Aside0.mk hg
  clear hts hg
  go_enter Tryd.func9, Tryd.ntmps9
  go_wp2_with fail
  refine (newA_calls W.heap.size W (Nat.le_refl _)).mono ?_
  rintro e w1 ⟨p, rfl, hi, hb, _, _, _, _⟩
  have H1 := Aside0.mk hi; have B1 := Aside0.mk hb; clear hi hb
  go_wp2_with fail
  refine (put_open W.heap.size w1 p a0 d0 Wave.v0 H1.out 1 ⟨by decide, by decide⟩).mono ?_
  rintro e w2 ⟨rfl, hi, ht⟩
  rw [open0, shutD1] at hi
  have H2 := Aside0.mk hi; have B2 := Aside0.mk (B1.out.trans ht.below); clear hi ht
  go_wp2_with fail
  refine (put_low W.heap.size w2 p _ d0 Wave.v0 H2.out 5 ⟨by decide, by decide⟩ rfl).mono ?_
  rintro e w3 ⟨rfl, hi, ht⟩
  have H3 := Aside0.mk (show Is W.heap.size w3 p (stA 5 0 false false false) d0 Wave.v0 from hi); have B3 := Aside0.mk (B2.out.trans ht.below); clear hi ht
  go_wp2_with fail
  refine (put_timer W.heap.size w3 p _ d0 Wave.v0 H3.out ⟨by decide, by decide⟩ (by decide) 2 ⟨by decide, by decide⟩).mono ?_
  rintro e w4 ⟨rfl, hi, ht⟩
  rw [tim2] at hi
  have H4 := Aside0.mk hi; have B4 := Aside0.mk (B3.out.trans ht.below); clear hi ht
  go_wp2_with fail
  go_loopg [10] 5 (fun kq v10 w' => ∃ (i : Int) (u : Wave.V), v10 = .int .i64 i ∧ Aside0 (Is W.heap.size w' p (stA 5 (5 - i) true false false) d0 u ∧ Wave.Okv u) ∧ Aside0 (i + kq = 5 ∧ 0 ≤ i) ∧ Aside0 (Below W.heap.size W w'))
  case atStart => exact ⟨0, Wave.v0, rfl, ⟨H4.out, Wave.okv0⟩, ⟨by decide, by decide⟩, B4⟩
  case round =>
    clear H1 H2 H3 H4 B1 B2 B3 B4
    obtain ⟨i, u, rfl, HR, HI, HB⟩ := hrel
    by_cases hlt : i < 5
    · have d1 : decide (i < 5) = true := decide_eq_true hlt
      have e1 : wrap64 (i + 1) = i + 1 := Wave.wr64 (by have := HI.out; omega) (by omega)
      have HC := Aside0.mk (clock0 W.heap.size wr p _ u HR.out.1 ⟨by show 0 ≤ 5 - i; omega, by show 5 - i < 65536; have := HI.out; omega⟩ HR.out.2 (HTS.out _ HB.out) HG.out)
      have HE := Aside0.mk (tick_on (fr := 5) (c := 5 - i) (by omega) false false)
      have HL := Aside0.mk hlt
      clear hlt
      go_wp2_with fail
      refine HC.out.mono ?_
      rintro e w5 ⟨rfl, hi, ht⟩
      rw [HE.out, show (5 - i - 1 : Int) = 5 - (i + 1) by omega] at hi
      have H5 := Aside0.mk hi; have B5 := Aside0.mk (HB.out.trans ht.below); clear hi ht
      go_wp2
      go_roundg (gk - 1)
      case measure => have := HI.out; have := HL.out; omega
      case rel => exact ⟨i + 1, _, by first | rfl | (congr 1), ⟨H5.out, Wave.clockV_ok HR.out.2⟩, ⟨by have := HI.out; have := HL.out; omega, by have := HI.out; omega⟩, B5⟩
    · have d1 : decide (i < 5) = false := decide_eq_false hlt
      have hi5 : i = 5 := by have := HI.out; omega
      subst hi5
      clear hlt d1
      go_wp2_with fail
      refine (irq_calls W.heap.size wr p _ d0 u HR.out.1 ⟨by decide, by decide⟩).mono ?_
      rintro e w5 ⟨rfl, rfl⟩
      rw [irqS]
      go_wp2_with fail
      refine (clock0 W.heap.size wr p _ u HR.out.1 ⟨by decide, by decide⟩ HR.out.2 (HTS.out _ HB.out) HG.out).mono ?_
      rintro e w6 ⟨rfl, hi, ht⟩
      rw [show tick (stA 5 (5 - 5) true false false) = stA 5 5 false false true from rfl] at hi
      have H6 := Aside0.mk hi; have B6 := Aside0.mk (HB.out.trans ht.below); clear hi ht
      go_wp2_with fail
      refine (irq_calls W.heap.size w6 p _ d0 _ H6.out ⟨by decide, by decide⟩).mono ?_
      rintro e w7 ⟨rfl, rfl⟩
      rw [irqS]
      go_wp2
      go_ret
      exact ⟨rfl, B6.out⟩
end Go.Proofs.YtaiaapjlpbhlbaaDoor.Ada

namespace Go.Proofs.YtaiaapjlpbhlbaaDoor.Ada
open Go.RowKit Go.Proofs.YtaiaapjlpbhlbaaDoorW.PrintWords Go.Proofs.YtaiaapjlpbhlbaaDoorW.PrintLast Go.Proofs.YtaiaapjlpbhlbaaDoorW.PrintMore
set_option linter.unusedVariables false
set_option linter.unusedSimpArgs false
set_option maxRecDepth 20000
def readA (a : A) (b : Int) : A := if bit a.ctl 64 = false then a else if a.found = true then { a with inn := b, asks := true, sum := stp a.sum b } else if b = 0 then a else { a with found := true, sum := stp 32768 b }
theorem read_calls (base : Nat) (W : World) (p : P) (a : A) (d : Drv.D) (u : Wave.V) (h : Is base W p a d u) (hc : U8 a.ctl) (hs : 0 ≤ a.sum ∧ a.sum < 65536) (b : Int) (hb : U8 b) :
    Calls Tryd.prog 47 #[.pointer (some ⟨p.g, 0, none⟩), .int .u8 b] W fun e W' => e = .returned (.tuple #[]) ∧ Is base W' p (readA a b) d u ∧ Turn base W W' (Foot p) := by
  have H := Aside0.mk h
  have c8 : W.cell? ⟨p.g, 8, none⟩ = some (.int .u8 a.ctl) := h.cell 8
  have c13 : W.cell? ⟨p.g, 13, none⟩ = some (.bool a.found) := h.cell 13
  have a64 := and_bit a.ctl hc 64 (by decide)
  have HS1 := Aside0.mk (fun (W1 : World) => step_calls a.sum b hs hb W1)
  have HS2 := Aside0.mk (fun (W1 : World) => step_calls 32768 b ⟨by decide, by decide⟩ hb W1)
  unfold readA
  generalize stp a.sum b = s1 at *
  generalize stp 32768 b = s2 at *
  generalize bit a.ctl 64 = b64 at *
  cases b64
  · rw [if_pos rfl]
    clear h hc hs hb
    go_enter Tryd.func47, Tryd.ntmps47
    go_wp2
    go_end0
    exact ⟨rfl, H.out, Drive.Turn.refl _ _ _⟩
  rw [if_neg (show ¬ (true = false) by decide)]
  by_cases hf : a.found = true
  rotate_left
  · have hf' : a.found = false := by simpa using hf
    rw [hf'] at c13
    rw [if_neg hf]
    clear hf'
    by_cases h0 : b = 0
    · rw [if_pos h0]
      subst h0
      clear h hc hs hb hf
      go_enter Tryd.func47, Tryd.ntmps47
      go_wp2
      go_end0
      exact ⟨rfl, H.out, Drive.Turn.refl _ _ _⟩
    · rw [if_neg h0]
      have t0 : (b == 0) = false := by simpa using h0
      have t1 : (b != 0) = true := by rw [bne, t0]; rfl
      have c14 : W.cell? ⟨p.g, 14, none⟩ = some (.int .u16 a.sum) := h.cell 14
      have f13 := h.frozen 13
      have f14 := h.frozen 14
      clear h hc hs hb hf h0
      go_enter Tryd.func47, Tryd.ntmps47
      go_wp2_with fail
      refine (HS2.out _).mono ?_
      rintro e w2 ⟨rfl, ⟨n2, rfl⟩⟩
      go_wp2
      go_end0
      exact ⟨rfl, ((H.out.drewN n2).set_ (a' := { a with found := true }) 13 (.bool true) rfl).set_ 14 (.int .u16 s2) rfl, (((Drive.Turn.refl _ _ _).drewN n2).set_ (.inl rfl) H.out.bs _).set_ (.inl rfl) H.out.bs _⟩
  · rw [hf] at c13
    rw [if_pos hf]
    have c9 : W.cell? ⟨p.g, 9, none⟩ = some (.int .u8 a.inn) := h.cell 9
    have c12 : W.cell? ⟨p.g, 12, none⟩ = some (.bool a.asks) := h.cell 12
    have f9 := h.frozen 9
    have f12 := h.frozen 12
    have H1 := Aside0.mk ((h.set_ (a' := { a with inn := b }) 9 (.int .u8 b) rfl).set_ (a' := { a with inn := b, asks := true }) 12 (.bool true) rfl)
    have T1 := Aside0.mk (((Drive.Turn.refl base W (Foot p)).set_ (i := 9) (.inl rfl) h.bs (.int .u8 b)).set_ (i := 12) (.inl rfl) h.bs (.bool true))
    have c14 : ((W.setCell ⟨p.g, 9, none⟩ (.int .u8 b)).setCell ⟨p.g, 12, none⟩ (.bool true)).cell? ⟨p.g, 14, none⟩ = some (.int .u16 a.sum) := H1.out.cell 14
    have f14 := H1.out.frozen 14
    clear h hc hs hb hf
    go_enter Tryd.func47, Tryd.ntmps47
    go_wp2_with fail
    refine (HS1.out _).mono ?_
    rintro e w2 ⟨rfl, ⟨n2, rfl⟩⟩
    go_wp2
    go_end0
    exact ⟨rfl, (H1.out.drewN n2).set_ (a' := { a with inn := b, asks := true, sum := s1 }) 14 (.int .u16 s1) rfl, (T1.out.drewN n2).set_ (.inl rfl) H1.out.bs _⟩
def s2I (a : A) : Int := stp (stp a.sum 0) 0
def nextA (a : A) : A :=
  if bit a.ctl 64 = false then a else if bit a.ctl 16 = false then { a with sum := stp a.sum a.out, tail := 0 }
  else if a.tail = 0 then { a with sum := s2I a, tail := 1 } else if a.tail = 1 then { a with tail := 2 } else a
def nextB (a : A) : Int :=
  if bit a.ctl 64 = false then 0 else if bit a.ctl 16 = false then a.out
  else if a.tail = 0 then s2I a % 256 else if a.tail = 1 then a.sum / 256 else 0
set_option maxHeartbeats 4000000 in
theorem next_calls (base : Nat) (W : World) (p : P) (a : A) (d : Drv.D) (u : Wave.V) (h : Is base W p a d u) (hc : U8 a.ctl) (ho : U8 a.out) (hs : 0 ≤ a.sum ∧ a.sum < 65536) (ht : 0 ≤ a.tail ∧ a.tail ≤ 2) :
    Calls Tryd.prog 50 #[.pointer (some ⟨p.g, 0, none⟩)] W fun e W' => e = .returned (.int .u8 (nextB a)) ∧ Is base W' p (nextA a) d u ∧ Turn base W W' (Foot p) := by
  have H := Aside0.mk h
  have c8 : W.cell? ⟨p.g, 8, none⟩ = some (.int .u8 a.ctl) := h.cell 8
  have c15 : W.cell? ⟨p.g, 15, none⟩ = some (.int .i64 a.tail) := h.cell 15
  have a64 := and_bit a.ctl hc 64 (by decide)
  have a16 := and_bit a.ctl hc 16 (by decide)
  have HS1 := Aside0.mk (fun (W1 : World) => step_calls a.sum a.out hs ho W1)
  have HS2 := Aside0.mk (fun (W1 : World) => step_calls a.sum 0 hs ⟨by decide, by decide⟩ W1)
  have hr2 := stp_range a.sum 0 hs
  have HS3 := Aside0.mk (fun (W1 : World) => step_calls (stp a.sum 0) 0 hr2 ⟨by decide, by decide⟩ W1)
  have hr3 := stp_range (stp a.sum 0) 0 hr2
  unfold nextA nextB s2I
  generalize stp (stp a.sum 0) 0 = s3 at *
  generalize stp a.sum 0 = s2 at *
  generalize stp a.sum a.out = s1 at *
  generalize bit a.ctl 64 = b64 at *
  generalize bit a.ctl 16 = b16 at *
  cases b64
  · rw [if_pos rfl, if_pos rfl]
    clear h hc ho hs ht hr2 hr3
    go_enter Tryd.func50, Tryd.ntmps50
    go_wp2
    go_ret
    exact ⟨rfl, H.out, Drive.Turn.refl _ _ _⟩
  rw [if_neg (show ¬ (true = false) by decide), if_neg (show ¬ (true = false) by decide)]
  cases b16
  · rw [if_pos rfl, if_pos rfl]
    have H1 := Aside0.mk h.drew
    have c15' : W.drew.cell? ⟨p.g, 15, none⟩ = some (.int .i64 a.tail) := H1.out.cell 15
    have f14 := h.drew.frozen 14
    have f15 := h.drew.frozen 15
    clear h hc ho hs ht hr2 hr3
    go_enter Tryd.func50, Tryd.ntmps50
    go_wp2
    refine start_ (n := 17) (S := fun w' => w'.cell? ⟨p.g, 14, none⟩ = some (.int .u16 a.sum) ∧ w'.cell? ⟨p.g, 10, none⟩ = some (.int .u8 a.out)) (ds := [13, 16]) #[false, false, false, false, false, false, false, false, false, false, false, false, false, false, false, false, false] (by kernel_rfl) rfl rfl ⟨H1.out.cell 14, H1.out.cell 10⟩ (fun hHeld => ?_)
    refine pure_ (i := 0) (N := some 17) (v := ?_) (a' := ?_) #[true, false, false, false, false, false, false, false, false, false, false, false, false, false, false, false, false] rfl rfl (by kernel_rfl) (fun _ _ _ h => h) (Or.inl ⟨by rfl, ?_⟩) ?_ ?_
    rotate_left
    · intro w'
      go_simp
      with_reducible rfl
    rotate_left
    · simp only [Act.put, List.setIfInBounds_toArray, List.set_cons_zero, List.set_cons_succ, i64_w, i32_w]
      rfl
    refine pure_ (i := 1) (N := some 18) (v := ?_) (a' := ?_) #[true, true, false, false, false, false, false, false, false, false, false, false, false, false, false, false, false] rfl rfl (by kernel_rfl) (fun _ _ _ h => h) (Or.inl ⟨by rfl, ?_⟩) ?_ ?_
    rotate_left
    · intro w'
      go_simp
      with_reducible rfl
    rotate_left
    · simp only [Act.put, List.setIfInBounds_toArray, List.set_cons_zero, List.set_cons_succ, i64_w, i32_w]
      rfl
    refine pure_ (i := 2) (N := some 19) (v := ?_) (a' := ?_) #[true, true, true, false, false, false, false, false, false, false, false, false, false, false, false, false, false] rfl rfl (by kernel_rfl) (fun _ _ _ h => h) (Or.inl ⟨by rfl, ?_⟩) ?_ ?_
    rotate_left
    · intro w'
      go_simp
      with_reducible rfl
    rotate_left
    · simp only [Act.put, List.setIfInBounds_toArray, List.set_cons_zero, List.set_cons_succ, i64_w, i32_w]
      rfl
    refine pure_ (i := 3) (N := some 20) (v := ?_) (a' := ?_) #[true, true, true, true, false, false, false, false, false, false, false, false, false, false, false, false, false] rfl rfl (by kernel_rfl) (fun _ _ _ h => h) (Or.inl ⟨by rfl, ?_⟩) ?_ ?_
    rotate_left
    · intro w'
      go_simp
      with_reducible rfl
    rotate_left
    · simp only [Act.put, List.setIfInBounds_toArray, List.set_cons_zero, List.set_cons_succ, i64_w, i32_w]
      rfl
    refine pure_ (i := 4) (N := some 21) (v := ?_) (a' := ?_) #[true, true, true, true, true, false, false, false, false, false, false, false, false, false, false, false, false] rfl rfl (by kernel_rfl) (fun _ _ _ h => h) (Or.inl ⟨by rfl, ?_⟩) ?_ ?_
    rotate_left
    · intro w'
      go_simp
      with_reducible rfl
    rotate_left
    · simp only [Act.put, List.setIfInBounds_toArray, List.set_cons_zero, List.set_cons_succ, i64_w, i32_w]
      rfl
    refine pure_ (i := 6) (N := some 23) (v := ?_) (a' := ?_) #[true, true, true, true, true, false, true, false, false, false, false, false, false, false, false, false, false] rfl rfl (by kernel_rfl) (fun _ _ _ h => h) (Or.inl ⟨by rfl, ?_⟩) ?_ ?_
    rotate_left
    · intro w'
      go_simp
      with_reducible rfl
    rotate_left
    · simp only [Act.put, List.setIfInBounds_toArray, List.set_cons_zero, List.set_cons_succ, i64_w, i32_w]
      rfl
    refine pure_ (i := 7) (N := some 24) (v := ?_) (a' := ?_) #[true, true, true, true, true, false, true, true, false, false, false, false, false, false, false, false, false] rfl rfl (by kernel_rfl) (fun _ _ _ h => h) (Or.inl ⟨by rfl, ?_⟩) ?_ ?_
    rotate_left
    · intro w'
      go_simp
      with_reducible rfl
    rotate_left
    · simp only [Act.put, List.setIfInBounds_toArray, List.set_cons_zero, List.set_cons_succ, i64_w, i32_w]
      rfl
    refine pure_ (i := 8) (N := some 25) (v := ?_) (a' := ?_) #[true, true, true, true, true, false, true, true, true, false, false, false, false, false, false, false, false] rfl rfl (by kernel_rfl) (fun _ _ _ h => h) (Or.inl ⟨by rfl, ?_⟩) ?_ ?_
    rotate_left
    · intro w'
      go_simp
      with_reducible rfl
    rotate_left
    · simp only [Act.put, List.setIfInBounds_toArray, List.set_cons_zero, List.set_cons_succ, i64_w, i32_w]
      rfl
    refine take_ (i := 5) (N := some 22) (v := ?_) (a' := ?_) #[true, true, true, true, true, true, true, true, true, false, false, false, false, false, false, false, false] rfl rfl (by kernel_rfl) (fun _ _ _ h => h) (Or.inl ⟨by rfl, ?_⟩) hHeld ?_ ?_
    rotate_left
    · rintro w' ⟨s0, s1⟩
      go_simp
      with_reducible rfl
    rotate_left
    · simp only [Act.put, List.setIfInBounds_toArray, List.set_cons_zero, List.set_cons_succ, i64_w, i32_w]
      rfl
    refine take_ (i := 9) (N := some 26) (v := ?_) (a' := ?_) #[true, true, true, true, true, true, true, true, true, true, false, false, false, false, false, false, false] rfl rfl (by kernel_rfl) (fun _ _ _ h => h) (Or.inl ⟨by rfl, ?_⟩) hHeld ?_ ?_
    rotate_left
    · rintro w' ⟨s0, s1⟩
      go_simp
      with_reducible rfl
    rotate_left
    · simp only [Act.put, List.setIfInBounds_toArray, List.set_cons_zero, List.set_cons_succ, i64_w, i32_w]
      rfl
    refine one_ (i := 10) (N := some 27) #[true, true, true, true, true, true, true, true, true, true, true, false, false, false, false, false, false] rfl rfl (by kernel_rfl) (by decide) (fun K hK => ?_)
    refine goes_ Tryd.func83 (by kernel_rfl) rfl #[.int .u16 a.sum, .int .u8 a.out] (by rfl) rfl rfl (by simp only [List.map_toArray, List.map_cons, List.map_nil]; rfl) ?_
    with_reducible refine (HS1.out _).mono ?_
    rintro e w6 ⟨rfl, ⟨n6, rfl⟩⟩
    refine ⟨_, rfl, ?_⟩
    refine hK.out _ _ ⟨(H1.out.drewN n6).cell 14, (H1.out.drewN n6).cell 10⟩ (fun hHeld => ?_)
    clear hK K
    refine norm_ (a' := ?_) ?_ ?_
    rotate_left
    · show Act.put _ (some 27) _ = _
      simp only [Act.put, List.setIfInBounds_toArray, List.set_cons_zero, List.set_cons_succ, i64_w, i32_w]
      rfl
    refine pure_ (i := 11) (N := some 28) (v := ?_) (a' := ?_) #[true, true, true, true, true, true, true, true, true, true, true, true, false, false, false, false, false] rfl rfl (by kernel_rfl) (fun _ _ _ h => h) (Or.inl ⟨by rfl, ?_⟩) ?_ ?_
    rotate_left
    · intro w'
      go_simp
      with_reducible rfl
    rotate_left
    · simp only [Act.put, List.setIfInBounds_toArray, List.set_cons_zero, List.set_cons_succ, i64_w, i32_w]
      rfl
    refine pure_ (i := 12) (N := some 29) (v := ?_) (a' := ?_) #[true, true, true, true, true, true, true, true, true, true, true, true, true, false, false, false, false] rfl rfl (by kernel_rfl) (fun _ _ _ h => h) (Or.inl ⟨by rfl, ?_⟩) ?_ ?_
    rotate_left
    · intro w'
      go_simp
      with_reducible rfl
    rotate_left
    · simp only [Act.put, List.setIfInBounds_toArray, List.set_cons_zero, List.set_cons_succ, i64_w, i32_w]
      rfl
    refine last_ (i := 13) (N := none) #[true, true, true, true, true, true, true, true, true, true, true, true, true, true, false, false, false] rfl rfl (by kernel_rfl) (by decide) (fun K hK => ?_)
    have x14 : W.cell? ⟨p.g, 14, none⟩ = some (.int .u16 a.sum) := H.out.cell 14; have y14 := H.out.frozen 14; have y15 := H.out.frozen 15
    refine skip_ (w1 := ?_) (by rfl) rfl ?_ ?_
    rotate_left
    · go_simp
      rfl
    refine hK.out _ _ ?_
    clear hK K
    refine pure_ (i := 14) (N := some 30) (v := ?_) (a' := ?_) #[true, true, true, true, true, true, true, true, true, true, true, true, true, true, true, false, false] rfl rfl (by kernel_rfl) (fun _ _ _ h => h) (Or.inl ⟨by rfl, ?_⟩) ?_ ?_
    rotate_left
    · intro w'
      go_simp
      with_reducible rfl
    rotate_left
    · simp only [Act.put, List.setIfInBounds_toArray, List.set_cons_zero, List.set_cons_succ, i64_w, i32_w]
      rfl
    refine pure_ (i := 15) (N := some 31) (v := ?_) (a' := ?_) #[true, true, true, true, true, true, true, true, true, true, true, true, true, true, true, true, false] rfl rfl (by kernel_rfl) (fun _ _ _ h => h) (Or.inl ⟨by rfl, ?_⟩) ?_ ?_
    rotate_left
    · intro w'
      go_simp
      with_reducible rfl
    rotate_left
    · simp only [Act.put, List.setIfInBounds_toArray, List.set_cons_zero, List.set_cons_succ, i64_w, i32_w]
      rfl
    refine last_ (i := 16) (N := none) #[true, true, true, true, true, true, true, true, true, true, true, true, true, true, true, true, true] rfl rfl (by kernel_rfl) (by decide) (fun K hK => ?_)
    refine skip_ (w1 := ?_) (by rfl) rfl ?_ ?_
    rotate_left
    · go_simp
      rfl
    refine hK.out _ _ ?_
    clear hK K
    refine done_ (by kernel_rfl) ?_
    have H5 := Aside0.mk (((H.out.drewN (1 + n6)).set_ (a' := { a with sum := s1 }) 14 (.int .u16 s1) rfl).set_ (a' := { a with sum := s1, tail := 0 }) 15 (.int .i64 0) rfl)
    have T5 := Aside0.mk ((((Drive.Turn.refl base W (Foot p)).drewN (1 + n6)).set_ (i := 14) (.inl rfl) H.out.bs (.int .u16 s1)).set_ (i := 15) (.inl rfl) H.out.bs (.int .i64 0))
    clear x14 y14 y15 c15' f14 f15
    generalize ((W.drewN (1 + n6)).setCell ⟨p.g, 14, none⟩ (.int .u16 s1)).setCell ⟨p.g, 15, none⟩ (.int .i64 0) = w6 at *
    have k10 : w6.cell? ⟨p.g, 10, none⟩ = some (.int .u8 a.out) := H5.out.cell 10
    go_wp2
    go_ret
    exact ⟨rfl, H5.out, T5.out⟩
  rw [if_neg (show ¬ (true = false) by decide), if_neg (show ¬ (true = false) by decide)]
  have c14 : W.cell? ⟨p.g, 14, none⟩ = some (.int .u16 a.sum) := h.cell 14
  have f14 := h.frozen 14
  have f15 := h.frozen 15
  by_cases h0 : a.tail = 0
  · rw [if_pos h0, if_pos h0]
    rw [h0] at c15
    have w3 : IntKind.u8.wrap s3 = s3 % 256 := by rw [IntKind.wrap_u8]
    clear h hc ho hs ht hr2 hr3 h0
    go_enter Tryd.func50, Tryd.ntmps50
    go_wp2_with fail
    refine (HS2.out _).mono ?_
    rintro e w2 ⟨rfl, ⟨n2, rfl⟩⟩
    go_wp2_with fail
    refine (HS3.out _).mono ?_
    rintro e w3 ⟨rfl, ⟨n3, rfl⟩⟩
    have H5 := Aside0.mk (fun (n : Nat) => ((H.out.drewN n).set_ (a' := { a with sum := s3 }) 14 (.int .u16 s3) rfl).set_ (a' := { a with sum := s3, tail := 1 }) 15 (.int .i64 1) rfl)
    have T5 := Aside0.mk (fun (n : Nat) => ((((Drive.Turn.refl base W (Foot p)).drewN n).set_ (i := 14) (.inl rfl) H.out.bs (.int .u16 s3)).set_ (i := 15) (.inl rfl) H.out.bs (.int .i64 1)))
    go_wp2
    go_ret
    exact ⟨by first | rfl | exact congrArg (fun n => Ending.returned (.int .u8 n)) w3, H5.out _, T5.out _⟩
  rw [if_neg h0, if_neg h0]
  have t0 : (a.tail == 0) = false := by simpa using h0
  by_cases h1 : a.tail = 1
  · rw [if_pos h1, if_pos h1]
    rw [h1] at c15
    have w3 : IntKind.u8.wrap (a.sum / 256) = a.sum / 256 := by rw [IntKind.wrap_u8]; omega
    have H5 := Aside0.mk (h.set_ (a' := { a with tail := 2 }) 15 (.int .i64 2) rfl)
    have T5 := Aside0.mk ((Drive.Turn.refl base W (Foot p)).set_ (i := 15) (.inl rfl) h.bs (.int .i64 2))
    have k14 : (W.setCell ⟨p.g, 15, none⟩ (.int .i64 2)).cell? ⟨p.g, 14, none⟩ = some (.int .u16 a.sum) := H5.out.cell 14
    clear h hc ho hs ht hr2 hr3 h0 h1
    go_enter Tryd.func50, Tryd.ntmps50
    go_wp2
    go_ret
    exact ⟨by first | rfl | exact congrArg (fun n => Ending.returned (.int .u8 n)) w3, H5.out, T5.out⟩
  · rw [if_neg h1, if_neg h1]
    have t1 : (a.tail == 1) = false := by simpa using h1
    clear h hc ho hs ht hr2 hr3 h0 h1
    go_enter Tryd.func50, Tryd.ntmps50
    go_wp2
    go_ret
    exact ⟨rfl, H.out, Drive.Turn.refl _ _ _⟩
theorem tick_keeps (a : A) : (tick a).ctl = a.ctl ∧ (tick a).out = a.out ∧ (tick a).sum = a.sum ∧ (tick a).tail = a.tail ∧ (tick a).opn = a.opn := by
  unfold tick
  split
  · exact ⟨rfl, rfl, rfl, rfl, rfl⟩
  · split <;> exact ⟨rfl, rfl, rfl, rfl, rfl⟩
theorem nextB_u8 {a : A} (ho : U8 a.out) (hs : 0 ≤ a.sum ∧ a.sum < 65536) : U8 (nextB a) := by
  have h3 := stp_range (stp a.sum 0) 0 (stp_range a.sum 0 hs)
  have z : U8 0 := ⟨by decide, by decide⟩
  unfold nextB s2I
  generalize stp (stp a.sum 0) 0 = s3 at *
  split
  · exact z
  · split
    · exact ho
    · split
      · exact ⟨by omega, by omega⟩
      · split
        · exact ⟨by omega, by omega⟩
        · exact z
/-- what a cycle in which a byte passes makes of the adapter, and of its drive -/
def passA (a : A) (d1 : Drv.D) : A := if bit a.ctl 2 = true then a else if bit a.ctl 4 = true then readA a (Drive.getI d1) else { nextA a with asks := true }
def passD (a : A) (d1 : Drv.D) : Drv.D := if bit a.ctl 2 = true then d1 else if bit a.ctl 4 = true then d1 else Drive.laid d1 (nextB a)
set_option maxHeartbeats 8000000 in
theorem clock_passes (base : Nat) (W : World) (p : P) (a : A) (d : Drv.D) (u : Wave.V) (h : Is base W p a d u) (hc : 0 ≤ a.count ∧ a.count < 65536) (hctl : U8 a.ctl) (ho : U8 a.out) (hs : 0 ≤ a.sum ∧ a.sum < 65536) (htl : 0 ≤ a.tail ∧ a.tail ≤ 2) (hu : Wave.Okv u) (hts : Wave.TS W) (hgb : 1 < base) (hf : Drive.Fit d) (hn : (Drv.clk d).2 = true)
    (hp : 0 ≤ (Drv.clk d).1.passed ∧ (Drv.clk d).1.passed < (Drv.clk d).1.side.length) (hgd : (Drv.clk d).1.guarded = false) (hg8 : U8 (Drive.getI (Drv.clk d).1)) :
    Calls Tryd.prog 12 #[.pointer (some ⟨p.g, 0, none⟩)] W fun e W' => e = .returned (.tuple #[]) ∧ Is base W' p (passA (tick a) (Drv.clk d).1) (passD (tick a) (Drv.clk d).1) (Wave.clockV u) ∧ Turn base W W' (Foot p) := by
  have H := Aside0.mk h
  have c1 : W.cell? ⟨p.g, 1, none⟩ = some (.pointer (some ⟨p.gw, 0, none⟩)) := h.cell 1
  have HW := Aside0.mk (Wave.clock_calls base p.gw u W h.wv hu hts hgb)
  have HT := Aside0.mk (fun (W1 : World) (h1 : Is base W1 p a d (Wave.clockV u)) => tick_calls base W1 p a d (Wave.clockV u) h1 hc)
  have HD := Aside0.mk (fun (W1 : World) (h1 : Is base W1 p (tick a) d (Wave.clockV u)) => Drive.clock_calls base p.gd p.v d W1 h1.dr hf)
  rw [hn] at HD
  have tk := tick_keeps a
  have a2 := and_bit (tick a).ctl (by rw [tk.1]; exact hctl) 2 (by decide)
  have a4 := and_bit (tick a).ctl (by rw [tk.1]; exact hctl) 4 (by decide)
  have HG := Aside0.mk (fun (W1 : World) (h1 : Is base W1 p (tick a) (Drv.clk d).1 (Wave.clockV u)) => Drive.get_calls base p.gd p.v (Drv.clk d).1 W1 h1.dr (.inr hp))
  have HRD := Aside0.mk (fun (W1 : World) (h1 : Is base W1 p (tick a) (Drv.clk d).1 (Wave.clockV u)) => read_calls base W1 p (tick a) (Drv.clk d).1 (Wave.clockV u) h1 (by rw [tk.1]; exact hctl) (by rw [tk.2.2.1]; exact hs) (Drive.getI (Drv.clk d).1) hg8)
  have HN := Aside0.mk (fun (W1 : World) (h1 : Is base W1 p (tick a) (Drv.clk d).1 (Wave.clockV u)) => next_calls base W1 p (tick a) (Drv.clk d).1 (Wave.clockV u) h1 (by rw [tk.1]; exact hctl) (by rw [tk.2.1]; exact ho) (by rw [tk.2.2.1]; exact hs) (by rw [tk.2.2.2.1]; exact htl))
  have HL := Aside0.mk (fun (W1 : World) (h1 : Is base W1 p (nextA (tick a)) (Drv.clk d).1 (Wave.clockV u)) => Drive.lay_yes base p.gd p.v (Drv.clk d).1 (nextB (tick a)) W1 h1.dr hp.1 hp.2 hgd)
  unfold passA passD
  generalize Drive.getI (Drv.clk d).1 = gb at *
  generalize readA (tick a) gb = ra at *
  generalize nextA (tick a) = na at *
  generalize nextB (tick a) = nb at *
  generalize (Drv.clk d).1 = d1 at *
  generalize Wave.clockV u = u' at *
  generalize tick a = a' at *
  generalize hq2 : bit a'.ctl 2 = b2 at *
  generalize hq4 : bit a'.ctl 4 = b4 at *
  clear h hc hctl ho hs htl hu hts hgb hf hn hp hgd hg8 tk hq2 hq4
  go_enter Tryd.func12, Tryd.ntmps12
  go_wp2_with fail
  refine HW.out.mono ?_
  rintro e w1 ⟨rfl, hi, ht⟩
  have H1 := Aside0.mk (H.out.after_wave hi ht); have T1 := Aside0.mk (of_wave (p := p) ht); clear hi ht
  go_wp2_with fail
  refine (HT.out _ H1.out).mono ?_
  rintro e w2 ⟨rfl, hi, ht⟩
  have H2 := Aside0.mk hi; have T2 := Aside0.mk (T1.out.trans ht); clear hi ht
  have c0 : w2.cell? ⟨p.g, 0, none⟩ = some (.pointer (some ⟨p.gd, 0, none⟩)) := H2.out.cell 0
  go_wp2_with fail
  refine (HD.out _ H2.out).mono ?_
  rintro e w3 ⟨rfl, hi, ht⟩
  have H3 := Aside0.mk (H2.out.after_drive hi ht); have T3 := Aside0.mk (T2.out.trans (of_drive ht)); clear hi ht
  have k0 : w3.cell? ⟨p.g, 0, none⟩ = some (.pointer (some ⟨p.gd, 0, none⟩)) := H3.out.cell 0
  have k8 : w3.cell? ⟨p.g, 8, none⟩ = some (.int .u8 a'.ctl) := H3.out.cell 8
  cases b2
  · cases b4
    · go_wp2
      refine start_ (n := 7) (S := fun w' => w'.cell? ⟨p.g, 0, none⟩ = some (.pointer (some ⟨p.gd, 0, none⟩))) (ds := [6]) #[false, false, false, false, false, false, false] (by kernel_rfl) rfl rfl (H3.out.drew.cell 0) (fun hHeld => ?_)
      refine pure_ (i := 0) (N := some 40) (v := ?_) (a' := ?_) #[true, false, false, false, false, false, false] rfl rfl (by kernel_rfl) (fun _ _ _ h => h) (Or.inl ⟨by rfl, ?_⟩) ?_ ?_
      rotate_left
      · intro w'
        go_simp
        with_reducible rfl
      rotate_left
      · simp only [Act.put, List.setIfInBounds_toArray, List.set_cons_zero, List.set_cons_succ, i64_w, i32_w]
        rfl
      refine pure_ (i := 1) (N := some 41) (v := ?_) (a' := ?_) #[true, true, false, false, false, false, false] rfl rfl (by kernel_rfl) (fun _ _ _ h => h) (Or.inl ⟨by rfl, ?_⟩) ?_ ?_
      rotate_left
      · intro w'
        go_simp
        with_reducible rfl
      rotate_left
      · simp only [Act.put, List.setIfInBounds_toArray, List.set_cons_zero, List.set_cons_succ, i64_w, i32_w]
        rfl
      refine pure_ (i := 2) (N := some 42) (v := ?_) (a' := ?_) #[true, true, true, false, false, false, false] rfl rfl (by kernel_rfl) (fun _ _ _ h => h) (Or.inl ⟨by rfl, ?_⟩) ?_ ?_
      rotate_left
      · intro w'
        go_simp
        with_reducible rfl
      rotate_left
      · simp only [Act.put, List.setIfInBounds_toArray, List.set_cons_zero, List.set_cons_succ, i64_w, i32_w]
        rfl
      refine pure_ (i := 4) (N := some 44) (v := ?_) (a' := ?_) #[true, true, true, false, true, false, false] rfl rfl (by kernel_rfl) (fun _ _ _ h => h) (Or.inl ⟨by rfl, ?_⟩) ?_ ?_
      rotate_left
      · intro w'
        go_simp
        with_reducible rfl
      rotate_left
      · simp only [Act.put, List.setIfInBounds_toArray, List.set_cons_zero, List.set_cons_succ, i64_w, i32_w]
        rfl
      refine take_ (i := 3) (N := some 43) (v := ?_) (a' := ?_) #[true, true, true, true, true, false, false] rfl rfl (by kernel_rfl) (fun _ _ _ h => h) (Or.inl ⟨by rfl, ?_⟩) hHeld ?_ ?_
      rotate_left
      · intro w' s0
        go_simp
        with_reducible rfl
      rotate_left
      · simp only [Act.put, List.setIfInBounds_toArray, List.set_cons_zero, List.set_cons_succ, i64_w, i32_w]
        rfl
      refine one_ (i := 5) (N := some 45) #[true, true, true, true, true, true, false] rfl rfl (by kernel_rfl) (by decide) (fun K hK => ?_)
      refine goes_ Tryd.func50 (by kernel_rfl) rfl #[.pointer (some ⟨p.g, 0, none⟩)] (by rfl) rfl rfl (by simp only [List.map_toArray, List.map_cons, List.map_nil]; rfl) ?_
      with_reducible refine (HN.out _ H3.out.drew).mono ?_
      rintro e w5 ⟨rfl, hi, ht⟩
      refine ⟨_, rfl, ?_⟩
      have H5 := Aside0.mk hi; have T5 := Aside0.mk (T3.out.drew.trans ht); clear hi ht
      refine hK.out _ _ (H5.out.cell 0) (fun hHeld => ?_)
      clear hK K
      refine norm_ (a' := ?_) ?_ ?_
      rotate_left
      · show Act.put _ (some 45) _ = _
        simp only [Act.put, List.setIfInBounds_toArray, List.set_cons_zero, List.set_cons_succ, i64_w, i32_w]
        rfl
      refine last_ (i := 6) (N := some 46) #[true, true, true, true, true, true, true] rfl rfl (by kernel_rfl) (by decide) (fun K hK => ?_)
      refine goes_ Tryd.func49 (by kernel_rfl) rfl #[.pointer (some ⟨p.gd, 0, none⟩), .int .u8 nb] (by rfl) rfl rfl (by simp only [List.map_toArray, List.map_cons, List.map_nil]; rfl) ?_
      with_reducible refine (HL.out _ H5.out).mono ?_
      rintro e w6 ⟨rfl, hi, ht⟩
      refine ⟨_, rfl, ?_⟩
      have H6 := Aside0.mk (H5.out.after_drive hi ht); have T6 := Aside0.mk (T5.out.trans (of_drive ht)); clear hi ht
      refine hK.out _ _ ?_
      clear hK K
      refine norm_ (a' := ?_) ?_ ?_
      rotate_left
      · show Act.put _ (some 46) _ = _
        simp only [Act.put, List.setIfInBounds_toArray, List.set_cons_zero, List.set_cons_succ, i64_w, i32_w]
        rfl
      refine done_ (by kernel_rfl) ?_
      have k12 : w6.cell? ⟨p.g, 12, none⟩ = some (.bool na.asks) := H6.out.cell 12
      have f12 := H6.out.frozen 12
      go_wp2
      go_end0
      exact ⟨rfl, H6.out.set_ 12 (.bool true) rfl, T6.out.set_ (.inl rfl) H6.out.bs _⟩
    · go_wp2_with fail
      refine (HG.out _ H3.out).mono ?_
      rintro e w4 ⟨rfl, n4, rfl⟩
      go_wp2_with fail
      refine (HRD.out _ (H3.out.drewN n4)).mono ?_
      rintro e w5 ⟨rfl, hi, ht⟩
      have H5 := Aside0.mk hi; have T5 := Aside0.mk ((T3.out.drewN n4).trans ht); clear hi ht
      go_wp2
      go_end0
      exact ⟨rfl, H5.out, T5.out⟩
  · go_wp2
    first | go_end0 | ((try simp only [Exit.inBlock, Exit.then]); refine bodyPost_ret (results_none rfl _ _ _) rfl ?_)
    exact ⟨rfl, H3.out, T3.out⟩
end Go.Proofs.YtaiaapjlpbhlbaaDoor.Ada

namespace Go.Proofs.YtaiaapjlpbhlbaaDoor.Wave
open Go.RowKit Go.Proofs.YtaiaapjlpbhlbaaDoorW.PrintWords Go.Proofs.YtaiaapjlpbhlbaaDoorW.PrintLast Go.Proofs.YtaiaapjlpbhlbaaDoorW.PrintMore
set_option linter.unusedVariables false
set_option linter.unusedSimpArgs false
theorem cells_len {base : Nat} {W : World} {g : Nat} {v : V} (h : Is base W g v) : v.cells.toArray.size = 152 := by
  rw [List.size_toArray]
  unfold V.cells V.tail
  simp only [List.length_append, u8s_len, h.lt, h.ln, h.lr, List.length_cons, List.length_nil]
theorem cells_one (v : V) : v.cells.toArray.all (·.oneCell') = true := by
  refine Array.all_eq_true_iff_forall_mem.2 fun x hx => ?_
  have hx' : x ∈ v.cells := by simpa using hx
  unfold V.cells V.tail u8s at hx'
  simp only [List.mem_append, List.mem_map, List.mem_cons, List.not_mem_nil, or_false] at hx'
  rcases hx' with ((⟨_, _, rfl⟩ | ⟨_, _, rfl⟩) | ⟨_, _, rfl⟩) | h
  · rfl
  · rfl
  · rfl
  · rcases h with rfl | rfl | rfl | rfl | rfl | rfl | rfl | rfl | rfl | rfl | rfl | rfl | rfl <;> rfl
end Go.Proofs.YtaiaapjlpbhlbaaDoor.Wave
namespace Go.Proofs.YtaiaapjlpbhlbaaDoor.Ada
open Go.RowKit Go.Proofs.YtaiaapjlpbhlbaaDoorW.PrintWords Go.Proofs.YtaiaapjlpbhlbaaDoorW.PrintLast Go.Proofs.YtaiaapjlpbhlbaaDoorW.PrintMore
set_option linter.unusedVariables false
set_option linter.unusedSimpArgs false
set_option maxRecDepth 20000
theorem drive_calls (base : Nat) (W : World) (p : P) (a : A) (d : Drv.D) (u : Wave.V) (h : Is base W p a d u) :
    Calls Tryd.prog 20 #[.pointer (some ⟨p.g, 0, none⟩)] W fun e W' => e = .returned (.pointer (some ⟨p.gd, 0, none⟩)) ∧ W = W' := by
  have c0 : W.cell? ⟨p.g, 0, none⟩ = some (.pointer (some ⟨p.gd, 0, none⟩)) := h.cell 0
  clear h
  go_enter Tryd.func20, Tryd.ntmps20
  go_wp2
  go_ret
  exact ⟨rfl, rfl⟩
theorem out_callsA (base : Nat) (W : World) (p : P) (a : A) (d : Drv.D) (u : Wave.V) (h : Is base W p a d u) (hu : Wave.Wf u) (hm : Wave.MS W) :
    Calls Tryd.prog 29 #[.pointer (some ⟨p.g, 0, none⟩)] W fun e W' => e = .returned (.int .i64 (Wave.outV u)) ∧ ∃ n, W' = W.drewN n := by
  have c1 : W.cell? ⟨p.g, 1, none⟩ = some (.pointer (some ⟨p.gw, 0, none⟩)) := h.cell 1
  have HO := Aside0.mk (Wave.out_calls base p.gw u W h.wv hu hm)
  generalize Wave.outV u = y at *
  clear h hu hm
  go_enter Tryd.func29, Tryd.ntmps29
  go_wp2_with fail
  refine HO.out.mono ?_
  rintro e w2 ⟨rfl, n2, rfl⟩
  go_wp2
  go_ret
  exact ⟨rfl, n2, rfl⟩
end Go.Proofs.YtaiaapjlpbhlbaaDoor.Ada

namespace Go.Proofs.YtaiaapjlpbhlbaaDoor.Drive
open Go.RowKit Go.Proofs.YtaiaapjlpbhlbaaDoorW.PrintWords Go.Proofs.YtaiaapjlpbhlbaaDoorW.PrintLast Go.Proofs.YtaiaapjlpbhlbaaDoorW.PrintMore
theorem which_range {n t : Int} (hn : 1 ≤ n) (h : Drv.passes n t = true) : 0 ≤ Drv.which n t ∧ Drv.which n t < n := by
  unfold Drv.passes at h
  unfold Drv.which
  have h' := of_decide_eq_true h
  have h1 := Int.emod_lt_of_pos t (show 0 < 4000 + 149 * n by omega)
  generalize t % (4000 + 149 * n) = m at *
  obtain ⟨a, b⟩ := h'
  omega
theorem Runs.lay {d : Drv.D} {p : List Int} {t : Int} (h : Runs d p t) (b : Int) : Runs (laid d b) (p.set d.passed.toNat b) t := by
  obtain ⟨hm, hs, hn, h1, h2, h3⟩ := h
  unfold laid
  refine ⟨hm, by show d.side.set _ _ = _; rw [hs], by intro e; have := congrArg List.length e; rw [List.length_set] at this; exact hn (List.length_eq_zero_iff.1 (by simpa using this)), ?_, ?_, ?_⟩
  · show d.ready = _
    rw [h1, List.length_set]
  · show d.left = _
    rw [h2, List.length_set]
  · show d.pos = _
    rw [h3, List.length_set]
end Go.Proofs.YtaiaapjlpbhlbaaDoor.Drive
namespace Go.Proofs.YtaiaapjlpbhlbaaDoor.Ada
open Go.RowKit Go.Proofs.YtaiaapjlpbhlbaaDoorW.PrintWords Go.Proofs.YtaiaapjlpbhlbaaDoorW.PrintLast Go.Proofs.YtaiaapjlpbhlbaaDoorW.PrintMore
set_option linter.unusedVariables false
set_option linter.unusedSimpArgs false
set_option maxRecDepth 20000
structure Ok (a : A) : Prop where
  from_ : 0 ≤ a.from_ ∧ a.from_ < 65536
  count : 0 ≤ a.count ∧ a.count < 65536
  ctl : U8 a.ctl
  out : U8 a.out
  sum : 0 ≤ a.sum ∧ a.sum < 65536
  tail : 0 ≤ a.tail ∧ a.tail ≤ 2
theorem tick_ok {a : A} (h : Ok a) : Ok (tick a) := by
  have hc := h.count
  unfold tick
  split
  · exact h
  · split
    · exact ⟨h.from_, by dsimp only; omega, h.ctl, h.out, h.sum, h.tail⟩
    · exact ⟨h.from_, h.from_, h.ctl, h.out, h.sum, h.tail⟩
theorem read_ok {a : A} (h : Ok a) (b : Int) : Ok (readA a b) ∧ (readA a b).ctl = a.ctl := by
  unfold readA
  split
  · exact ⟨h, rfl⟩
  · split
    · exact ⟨⟨h.from_, h.count, h.ctl, h.out, stp_range _ _ h.sum, h.tail⟩, rfl⟩
    · split
      · exact ⟨h, rfl⟩
      · exact ⟨⟨h.from_, h.count, h.ctl, h.out, stp_range _ _ ⟨by decide, by decide⟩, h.tail⟩, rfl⟩
theorem next_ok {a : A} (h : Ok a) : Ok (nextA a) ∧ (nextA a).ctl = a.ctl := by
  unfold nextA
  split
  · exact ⟨h, rfl⟩
  · split
    · exact ⟨⟨h.from_, h.count, h.ctl, h.out, stp_range _ _ h.sum, ⟨by dsimp only; decide, by dsimp only; decide⟩⟩, rfl⟩
    · split
      · exact ⟨⟨h.from_, h.count, h.ctl, h.out, stp_range _ _ (stp_range _ _ h.sum), ⟨by dsimp only; decide, by dsimp only; decide⟩⟩, rfl⟩
      · split
        · exact ⟨⟨h.from_, h.count, h.ctl, h.out, h.sum, ⟨by dsimp only; decide, by dsimp only; decide⟩⟩, rfl⟩
        · exact ⟨h, rfl⟩
theorem pass_ok {a : A} (h : Ok a) (d : Drv.D) : Ok (passA a d) ∧ (passA a d).ctl = a.ctl := by
  unfold passA
  split
  · exact ⟨h, rfl⟩
  · split
    · exact read_ok h _
    · have n := next_ok h
      exact ⟨⟨n.1.from_, n.1.count, n.1.ctl, n.1.out, n.1.sum, n.1.tail⟩, n.2⟩
/-- an adapter whose drive runs over so many bytes -/
structure Good (base : Nat) (W : World) (p : P) (n : Nat) (c : Int) (a : A) (d : Drv.D) (u : Wave.V) (l : List Int) (t : Int) : Prop where
  is_ : Is base W p a d u
  ok : Ok a
  ctl : a.ctl = c
  runs : Drive.Runs d l t
  len : l.length = n
  byt : ∀ j, U8 (rd l j)
  grd : d.guarded = false
  okv : Wave.Okv u
theorem over {B base : Nat} {A C D : World} {S : Nat → Prop} (hb : Below B A C) (ht : Drive.Turn base C D S) (hS : ∀ i, S i → B ≤ i) (hB : B ≤ A.heap.size) : Below B A D :=
  ⟨ht.below.os.trans hb.os, ht.below.tape.trans hb.tape, ht.below.output.trans hb.output, Nat.le_trans hb.size ht.below.size, fun k hk => by
    rw [ht.kept k (by have := hb.size; omega) (fun hs => by have := hS k hs; omega)]; exact hb.block k hk⟩
theorem Is.after_insert {base : Nat} {W W1 : World} {p : P} {a : A} {d d' : Drv.D} {u : Wave.V} {v1 : Value} (h : Is base W p a d u) (hw : Drive.Is base W1 p.gd v1 d') (ht : Drive.Turn base W W1 (fun i => i = p.gd)) (hv : ∀ k, v1.ownBlock = some k → W.heap.size ≤ k) : Is base W1 ⟨p.g, p.gd, p.gw, v1⟩ a d' u :=
  ⟨(ht.kept p.g h.at_.lt (fun e => h.ne1 e)).trans h.at_, h.bs, hw, ⟨(ht.kept p.gw h.wv.at_.lt (fun e => h.ne3 e.symm)).trans h.wv.at_, h.wv.base, h.wv.lt, h.wv.ln, h.wv.lr⟩, h.ne1, h.ne2, h.ne3, fun k hk => ⟨fun e => by have h1 := hv k hk; have h2 := h.at_.lt; change k = p.g at e; omega, fun e => by have h1 := hv k hk; have h2 := h.wv.at_.lt; change k = p.gw at e; omega⟩⟩
def aI : A := ⟨0, 0, false, false, false, 1, 0, 0, 0, 0, false, false, 32768, 0⟩
set_option maxHeartbeats 4000000 in
theorem open_calls (base : Nat) (W : World) (hbase : base ≤ W.heap.size) (A0 : Option Addr) (c : Nat) (l : List Int) (hC : (Kd.int .u8).C W A0 l.length l) (hc : l.length ≤ c) (hl0 : 0 < l.length) (hl1 : l.length ≤ 65536) :
    Calls Tryd.prog 31 #[.slice A0 l.length c] W fun e W' => ∃ p : P, e = .returned (.pointer (some ⟨p.g, 0, none⟩)) ∧ Is base W' p aI (Drive.back { d0 with side := l }) Wave.v0 ∧ Below W.heap.size W W' ∧ W.heap.size ≤ p.g ∧ W.heap.size ≤ p.gd ∧ W.heap.size ≤ p.gw ∧ (∀ k, p.v.ownBlock = some k → W.heap.size ≤ k) := by
  have HC := Aside0.mk hC
  have HL := Aside0.mk (And.intro hc (And.intro hl0 hl1))
  have HB := Aside0.mk hbase
  clear hC hc hl0 hl1 hbase
  generalize hll : l.length = ll at *
  have HLL := Aside0.mk hll
  clear hll
  go_enter Tryd.func31, Tryd.ntmps31
  go_wp2_with fail
  refine (newA_calls base W HB.out).mono ?_
  rintro e w1 ⟨p, rfl, hi, hb, g1, g2, g3, hv⟩
  have H1 := Aside0.mk hi; have B1 := Aside0.mk hb; have G1 := Aside0.mk (And.intro g1 (And.intro g2 g3)); clear hi hb g1 g2 g3 hv
  have HDR := Aside0.mk (drive_calls base w1 p a0 d0 Wave.v0 H1.out)
  have HIN := Aside0.mk (show Calls Tryd.prog 21 #[.pointer (some ⟨p.gd, 0, none⟩), .slice A0 ll c] w1 fun e W' => e = .returned (.bool true) ∧ ∃ v1 : Value, Drive.Is base W' p.gd v1 (Drive.back { d0 with side := l }) ∧ (∀ k, v1.ownBlock = some k → w1.heap.size ≤ k) ∧ Drive.Turn base w1 W' (fun i => i = p.gd) from by
    have h := HLL.out
    subst h
    exact Drive.insert_yes base p.gd p.v d0 A0 c l w1 H1.out.dr rfl HL.out.2.1 HL.out.2.2 HL.out.1 (Kd.C_below HC.out B1.out) (Nat.le_trans HB.out B1.out.size))
  go_wp2_with fail
  refine HDR.out.mono ?_
  rintro e w2 ⟨rfl, rfl⟩
  go_wp2_with fail
  refine HIN.out.mono ?_
  rintro e w2 ⟨rfl, v1, hi, hv, ht⟩
  have H2 := Aside0.mk (H1.out.after_insert hi ht hv); have HV := Aside0.mk hv
  have B2 := Aside0.mk (over B1.out ht (fun i e => by change i = p.gd at e; rw [e]; exact G1.out.2.1) (Nat.le_refl _))
  have S1 := Aside0.mk B1.out.size
  clear hi hv ht
  go_wp2_with fail
  refine (put_open base w2 ⟨p.g, p.gd, p.gw, v1⟩ a0 _ Wave.v0 H2.out 1 ⟨by decide, by decide⟩).mono ?_
  rintro e w3 ⟨rfl, hi, ht⟩
  have H3 := Aside0.mk (show Is base w3 ⟨p.g, p.gd, p.gw, v1⟩ aI (Drive.back { d0 with side := l }) Wave.v0 from hi)
  have B3 := Aside0.mk (over B2.out ht (fun i e => by
    rcases e with e | e | e | e
    · change i = p.g at e; rw [e]; exact G1.out.1
    · change i = p.gd at e; rw [e]; exact G1.out.2.1
    · change i = p.gw at e; rw [e]; exact G1.out.2.2
    · exact Nat.le_trans S1.out (HV.out i e)) (Nat.le_refl _))
  clear hi ht
  go_wp2
  go_ret
  exact ⟨⟨p.g, p.gd, p.gw, v1⟩, rfl, H3.out, B3.out, G1.out.1, G1.out.2.1, G1.out.2.2, fun k hk => Nat.le_trans S1.out (HV.out k hk)⟩
end Go.Proofs.YtaiaapjlpbhlbaaDoor.Ada

namespace Go.Proofs.YtaiaapjlpbhlbaaDoor.Ada
open Go.RowKit Go.Proofs.YtaiaapjlpbhlbaaDoorW.PrintWords Go.Proofs.YtaiaapjlpbhlbaaDoorW.PrintLast Go.Proofs.YtaiaapjlpbhlbaaDoorW.PrintMore
set_option linter.unusedVariables false
set_option linter.unusedSimpArgs false
set_option maxRecDepth 20000
/-- the cycles till k bytes have passed -/
def T (k : Nat) : Int := if k = 0 then 0 else 4000 + 149 * (k : Int)
/-- how many cycles go by ahead of the one in which byte k passes -/
def wait (k : Nat) : Nat := if k = 0 then 4148 else 148
theorem wait_le (k : Nat) : wait k ≤ 4148 := by unfold wait; split <;> omega
theorem T_next (k : Nat) : T k + (wait k : Int) + 1 = T (k + 1) := by
  unfold T wait
  rw [if_neg (show ¬ k + 1 = 0 by omega)]
  by_cases h : k = 0
  · rw [if_pos h, if_pos h]; subst h; rfl
  · rw [if_neg h, if_neg h]; push_cast; omega
theorem T_small (k n j : Nat) (hk : k < n) (hj : j ≤ wait k) : (T k + (j : Int)) % (4000 + 149 * (n : Int)) = T k + (j : Int) := by
  apply Int.emod_eq_of_lt
  · unfold T; split <;> omega
  · unfold T
    unfold wait at hj
    split at hj
    · rename_i h; rw [if_pos h]; omega
    · rename_i h; rw [if_neg h]; omega
theorem T_none (k n j : Nat) (hk : k < n) (hj : j < wait k) : Drv.passes n (T k + (j : Int)) = false := by
  unfold Drv.passes
  rw [T_small k n j hk (by omega)]
  apply decide_eq_false
  rintro ⟨h1, h2⟩
  unfold T at h1 h2
  unfold wait at hj
  split at hj
  · rename_i h; rw [if_pos h] at h1 h2; omega
  · rename_i h; rw [if_neg h] at h1 h2; omega
theorem T_pass (k n : Nat) (hk : k < n) : Drv.passes n (T k + (wait k : Int)) = true ∧ Drv.which n (T k + (wait k : Int)) = k := by
  unfold Drv.passes Drv.which
  rw [T_small k n (wait k) hk (Nat.le_refl _)]
  unfold T wait
  by_cases h : k = 0
  · rw [if_pos h, if_pos h]; subst h; exact ⟨by decide, by decide⟩
  · rw [if_neg h, if_neg h]; exact ⟨decide_eq_true ⟨by omega, by omega⟩, by omega⟩
/-- where the head is, before a byte passes -/
theorem T_stays (k n j : Nat) (hk : k < n) (hj : j ≤ wait k) (hr : Drv.goneR n (T k + (j : Int)) = true) : Drv.goneP n (T k + (j : Int)) = k := by
  unfold Drv.goneR at hr
  have hr := of_decide_eq_true hr
  unfold Drv.goneP
  rw [T_small k n j hk hj] at hr ⊢
  rw [if_neg (by omega)]
  unfold T at hr ⊢
  unfold wait at hj
  split at hj
  · rename_i h; rw [if_pos h] at hr ⊢; omega
  · rename_i h; rw [if_neg h] at hr ⊢; omega
theorem T_ready (k n j : Nat) (hk : k < n) (hj : j < wait k) (hr : Drv.goneR n (T k + (j : Int)) = true) : Drv.goneR n (T k + ((j + 1 : Nat) : Int)) = true := by
  unfold Drv.goneR at *
  have hr := of_decide_eq_true hr
  rw [T_small k n j hk (by omega)] at hr
  rw [T_small k n (j + 1) hk (by omega)]
  apply decide_eq_true
  push_cast; omega
theorem T_over (k n : Nat) (hk : k < n) : Drv.goneR n (T k + (wait k : Int)) = true := by
  unfold Drv.goneR
  rw [T_small k n _ hk (Nat.le_refl _)]
  apply decide_eq_true
  unfold T wait
  split
  · omega
  · omega
theorem T_moved (k n : Nat) (hk : k < n) : (if Drv.goneR n (T (k + 1)) = true then Drv.goneP n (T (k + 1)) else 0) ≠ (k : Int) ∨ Drv.goneR n (T (k + 1)) = false := by
  by_cases h : k + 1 < n
  · left
    have h1 := T_small (k + 1) n 0 h (Nat.zero_le _)
    simp only [Int.natCast_zero, Int.add_zero] at h1
    unfold Drv.goneR Drv.goneP
    rw [h1]
    unfold T
    rw [if_neg (show ¬ k + 1 = 0 by omega)]
    rw [if_pos (decide_eq_true (by push_cast; omega)), if_neg (by push_cast; omega)]
    push_cast; omega
  · right
    unfold Drv.goneR
    have : T (k + 1) = 4000 + 149 * (n : Int) := by unfold T; rw [if_neg (by omega), show k + 1 = n by omega]
    rw [this, Int.emod_self]
    rfl
/-- an adapter under a drive that runs over the side l, t cycles behind its going back; its timer off, its registers open -/
structure Hd (base : Nat) (W : World) (p : P) (a : A) (d : Drv.D) (l : List Int) (t : Int) : Prop where
  is_ : ∃ u, Is base W p a d u ∧ Wave.Okv u
  ok : Ok a
  on : a.on = false
  opn : a.opn = 1
  runs : Drive.Runs d l t
  len : l.length ≤ 65536
  byt : ∀ j, U8 (rd l j)
  grd : d.guarded = false
theorem Hd.ready {base : Nat} {W : World} {p : P} {a : A} {d : Drv.D} {l : List Int} {t : Int} (h : Hd base W p a d l t) : Drive.readyB d = Drv.goneR l.length t ∧ Drive.atI d = (if Drv.goneR l.length t = true then Drv.goneP l.length t else 0) := by
  obtain ⟨hm, hs, hn, h1, h2, h3⟩ := h.runs
  have hb := (Drive.hasB_pos (d := d) (by rw [hs]; exact hn)).1
  have hr : Drive.readyB d = Drv.goneR l.length t := by
    unfold Drive.readyB
    rw [hm, hb, h1, hs]; rfl
  refine ⟨hr, ?_⟩
  unfold Drive.atI
  rw [hr, h3, hs]
theorem tick_same {a : A} (h : a.on = false) : tick a = a := by unfold tick; rw [if_pos h]
theorem pass_keeps (a : A) (d : Drv.D) : (passA a d).on = a.on ∧ (passA a d).opn = a.opn := by
  unfold passA readA nextA
  repeat' split
  all_goals exact ⟨rfl, rfl⟩
/-- what a byte that passes makes of the adapter, and of the side -/
def psA (a : A) (b : Int) : A := if bit a.ctl 2 = true then a else if bit a.ctl 4 = true then readA a b else { nextA a with asks := true }
def psL (a : A) (l : List Int) (k : Nat) : List Int := if bit a.ctl 2 = true then l else if bit a.ctl 4 = true then l else l.set k (nextB a)
theorem psL_len (a : A) (l : List Int) (k : Nat) : (psL a l k).length = l.length := by
  unfold psL
  split
  · rfl
  · split
    · rfl
    · exact List.length_set
theorem clock_quiet {base : Nat} {W : World} {p : P} {a : A} {d : Drv.D} {l : List Int} {t : Int} (h : Hd base W p a d l t) (hp : Drv.passes l.length t = false) (hts : Wave.TS W) (hgb : 1 < base) :
    Calls Tryd.prog 12 #[.pointer (some ⟨p.g, 0, none⟩)] W fun e W' => e = .returned (.tuple #[]) ∧ (∃ d', Hd base W' p a d' l (t + 1)) ∧ Turn base W W' (Foot p) := by
  obtain ⟨u, hi, hu⟩ := h.is_
  obtain ⟨r1, r2, r3, r4, r5⟩ := h.runs.next
  refine (clock_none base W p a d u hi h.ok.count hu hts hgb (h.runs.fit h.len) (r2.trans hp)).mono ?_
  rintro e W' ⟨rfl, hi2, ht⟩
  rw [tick_same h.on] at hi2
  exact ⟨rfl, ⟨_, ⟨⟨_, hi2, Wave.clockV_ok hu⟩, h.ok, h.on, h.opn, r1, h.len, h.byt, r4.trans h.grd⟩⟩, ht⟩
theorem clock_loud {base : Nat} {W : World} {p : P} {a : A} {d : Drv.D} {l : List Int} {t : Int} {k : Nat} (h : Hd base W p a d l t) (hp : Drv.passes l.length t = true) (hw : Drv.which l.length t = k) (hk : k < l.length) (hts : Wave.TS W) (hgb : 1 < base) :
    Calls Tryd.prog 12 #[.pointer (some ⟨p.g, 0, none⟩)] W fun e W' => e = .returned (.tuple #[]) ∧ (∃ d', Hd base W' p (psA a (rd l k)) d' (psL a l k) (t + 1)) ∧ Turn base W W' (Foot p) := by
  obtain ⟨u, hi, hu⟩ := h.is_
  obtain ⟨r1, r2, r3, r4, r5⟩ := h.runs.next
  rw [if_pos hp, hw] at r3
  have hside : (Drv.clk d).1.side = l := r1.2.1
  have hgd : (Drv.clk d).1.guarded = false := r4.trans h.grd
  have hg : Drive.getI (Drv.clk d).1 = rd l k := by unfold Drive.getI; rw [if_neg (by omega), hside, r3]
  refine (clock_passes base W p a d u hi h.ok.count h.ok.ctl h.ok.out h.ok.sum h.ok.tail hu hts hgb (h.runs.fit h.len) (r2.trans hp) (by rw [hside, r3]; omega) hgd (by rw [hg]; exact h.byt _)).mono ?_
  rintro e W' ⟨rfl, hi2, ht⟩
  rw [tick_same h.on] at hi2
  have pk := pass_keeps a (Drv.clk d).1
  have po := pass_ok h.ok (Drv.clk d).1
  have hA : passA a (Drv.clk d).1 = psA a (rd l k) := by unfold passA psA; rw [hg]
  rw [hA] at hi2 pk po
  refine ⟨rfl, ⟨_, ⟨⟨_, hi2, Wave.clockV_ok hu⟩, po.1, pk.1.trans h.on, pk.2.trans h.opn, ?_, by rw [psL_len]; exact h.len, ?_, ?_⟩⟩, ht⟩
  · unfold passD psL
    split
    · exact r1
    · split
      · exact r1
      · have := Drive.Runs.lay r1 (nextB a)
        rwa [r3, Int.toNat_natCast] at this
  · intro j
    unfold psL
    split
    · exact h.byt j
    · split
      · exact h.byt j
      · exact Wave.rd_set_P (fun x => U8 x) l _ _ (nextB_u8 h.ok.out h.ok.sum) h.byt j
  · unfold passD
    split
    · exact hgd
    · split
      · exact hgd
      · exact hgd
set_option maxHeartbeats 8000000 in
/-- till byte k passes -/
theorem passes_to (base : Nat) (W : World) (p : P) (a : A) (l : List Int) (k : Nat) (h : ∃ d, Hd base W p a d l (T k)) (hk : k < l.length) (hts : Wave.TS W) (hgb : 1 < base) :
    Calls Tryd.prog 32 #[.pointer (some ⟨p.g, 0, none⟩)] W fun e W' => e = .returned (.bool true) ∧ (∃ d, Hd base W' p (psA a (rd l k)) d (psL a l k) (T (k + 1))) ∧ Turn base W W' (Foot p) := by
  obtain ⟨d, h⟩ := h
  have H := Aside0.mk h
  have HK := Aside0.mk hk
  have HTS := Aside0.mk (fun (W1 : World) (hb : Below base W W1) => hts.below hb hgb)
  have HG := Aside0.mk hgb
  clear h hk hts hgb
  go_enter Tryd.func32, Tryd.ntmps32
  go_wp2_with fail
  go_loopg [5] 4150 (fun kq v5 w' => ∃ (i : Nat) (d : Drv.D), v5 = .int .i64 (i : Int) ∧ Aside0 (Hd base w' p a d l (T k + (i : Int))) ∧ Aside0 ((i : Int) + kq = 4150 ∧ i ≤ wait k) ∧ Aside0 (Turn base W w' (Foot p)))
  case atStart => exact ⟨0, d, rfl, ⟨by rw [Int.natCast_zero, Int.add_zero]; exact H.out⟩, ⟨by decide, Nat.zero_le _⟩, ⟨Drive.Turn.refl _ _ _⟩⟩
  case round =>
    clear H
    obtain ⟨i, d, rfl, HR, HI, HT⟩ := hrel
    have d1 : decide ((i : Int) < 4150) = true := decide_eq_true (by have := HI.out.2; have := wait_le k; omega)
    have e1 : wrap64 ((i : Int) + 1) = ((i + 1 : Nat) : Int) := by rw [Wave.wr64 (by omega) (by have := HI.out.2; have := wait_le k; omega)]; rfl
    obtain ⟨u, hi, hu⟩ := HR.out.is_
    have HDR := Aside0.mk (drive_calls base wr p a d u hi)
    have HAT := Aside0.mk (Drive.at_calls base p.gd p.v d wr hi.dr)
    have HRY := Aside0.mk (Drive.ready_calls base p.gd p.v d wr hi.dr)
    clear hi hu u
    have hra := HR.out.ready
    by_cases hlt : i < wait k
    · have HL := Aside0.mk hlt
      have HCL := Aside0.mk (clock_quiet HR.out (T_none k l.length i HK.out hlt) (HTS.out _ HT.out.below) HG.out)
      have HF := Aside0.mk (show ∀ (w3 : World) (d' : Drv.D), Hd base w3 p a d' l (T k + (i : Int) + 1) → Drive.readyB d = true → Drive.atI d' = Drive.atI d ∧ Drive.readyB d' = true from by
        intro w3 d' h3 hr
        have h3' := h3.ready
        rw [hra.1] at hr
        have hr2 := T_ready k l.length i HK.out hlt hr
        have e0 : T k + (i : Int) + 1 = T k + ((i + 1 : Nat) : Int) := by push_cast; omega
        rw [e0] at h3'
        rw [h3'.1, h3'.2, hra.2, hr, hr2, if_pos rfl, if_pos rfl, T_stays k l.length i HK.out (by omega) hr, T_stays k l.length (i + 1) HK.out (by omega) hr2]
        exact ⟨rfl, rfl⟩)
      clear hra
      generalize Drive.atI d = x0 at *
      generalize Drive.readyB d = r0 at *
      clear hlt
      go_wp2_with fail
      refine HDR.out.mono ?_
      rintro e w2 ⟨rfl, rfl⟩
      go_wp2_with fail
      refine HAT.out.mono ?_
      rintro e w2 ⟨rfl, rfl⟩
      go_wp2_with fail
      refine HDR.out.mono ?_
      rintro e w2 ⟨rfl, rfl⟩
      go_wp2_with fail
      refine HRY.out.mono ?_
      rintro e w2 ⟨rfl, rfl⟩
      go_wp2_with fail
      refine HCL.out.mono ?_
      rintro e w3 ⟨rfl, ⟨d', hg⟩, ht⟩
      have HG3 := Aside0.mk hg; have HT3 := Aside0.mk (HT.out.trans ht); clear hg ht
      have HREL := Aside0.mk (show Hd base w3 p a d' l (T k + ((i + 1 : Nat) : Int)) from by have := HG3.out; rwa [show T k + (i : Int) + 1 = T k + ((i + 1 : Nat) : Int) by push_cast; omega] at this)
      cases r0
      · go_wp2
        go_roundg (gk - 1)
        case measure => have := HI.out; have := wait_le k; omega
        case rel => exact ⟨i + 1, d', by first | rfl | (congr 1), HREL, ⟨by have := HI.out; have := wait_le k; push_cast; omega, HL.out⟩, HT3⟩
      · have hf := HF.out w3 d' HG3.out rfl
        obtain ⟨u', hi', hu'⟩ := HG3.out.is_
        have HDR3 := Aside0.mk (drive_calls base w3 p a d' u' hi')
        have HAT3 := Aside0.mk (Drive.at_calls base p.gd p.v d' w3 hi'.dr)
        have HRY3 := Aside0.mk (Drive.ready_calls base p.gd p.v d' w3 hi'.dr)
        clear hi' hu' u'
        rw [hf.1] at HAT3
        rw [hf.2] at HRY3
        clear hf
        have t1 : (x0 != x0) = false := by simp
        go_wp2_with fail
        refine HDR3.out.mono ?_
        rintro e w4 ⟨rfl, rfl⟩
        go_wp2_with fail
        refine HAT3.out.mono ?_
        rintro e w4 ⟨rfl, rfl⟩
        go_wp2_with fail
        refine HDR3.out.mono ?_
        rintro e w4 ⟨rfl, rfl⟩
        go_wp2_with fail
        refine HRY3.out.mono ?_
        rintro e w4 ⟨rfl, rfl⟩
        go_wp2
        go_roundg (gk - 1)
        case measure => have := HI.out; have := wait_le k; omega
        case rel => exact ⟨i + 1, d', by first | rfl | (congr 1), HREL, ⟨by have := HI.out; have := wait_le k; push_cast; omega, HL.out⟩, HT3⟩
    · have hiw : i = wait k := by have := HI.out.2; omega
      subst hiw
      have tp := T_pass k l.length HK.out
      have HCL := Aside0.mk (clock_loud HR.out tp.1 tp.2 HK.out (HTS.out _ HT.out.below) HG.out)
      have hro := T_over k l.length HK.out
      have hst := T_stays k l.length (wait k) HK.out (Nat.le_refl _) hro
      have hr1 : Drive.readyB d = true := by rw [hra.1]; exact hro
      have ha1 : Drive.atI d = (k : Int) := by rw [hra.2, if_pos hro, hst]
      rw [ha1] at HAT
      rw [hr1] at HRY
      rw [T_next k] at HCL
      have HMV := Aside0.mk (T_moved k l.length HK.out)
      clear tp hro hst hr1 ha1 hra hlt HR
      have HPL := Aside0.mk (psL_len a l k)
      obtain ⟨kI, hkI⟩ : ∃ kI : Int, kI = (k : Int) := ⟨_, rfl⟩
      rw [← hkI] at HAT HMV
      clear hkI
      go_wp2_with fail
      refine HDR.out.mono ?_
      rintro e w2 ⟨rfl, rfl⟩
      go_wp2_with fail
      refine HAT.out.mono ?_
      rintro e w2 ⟨rfl, rfl⟩
      go_wp2_with fail
      refine HDR.out.mono ?_
      rintro e w2 ⟨rfl, rfl⟩
      go_wp2_with fail
      refine HRY.out.mono ?_
      rintro e w2 ⟨rfl, rfl⟩
      go_wp2_with fail
      refine HCL.out.mono ?_
      rintro e w3 ⟨rfl, ⟨d', hg⟩, ht⟩
      have HG3 := Aside0.mk hg; have HT3 := Aside0.mk (HT.out.trans ht); clear hg ht
      have HX := Aside0.mk (show Drive.atI d' ≠ kI ∨ Drive.readyB d' = false from by
        have h3 := HG3.out.ready
        rw [HPL.out] at h3
        rw [h3.1, h3.2]
        exact HMV.out)
      obtain ⟨u', hi', hu'⟩ := HG3.out.is_
      have HDR3 := Aside0.mk (drive_calls base w3 p (psA a (rd l k)) d' u' hi')
      have HAT3 := Aside0.mk (Drive.at_calls base p.gd p.v d' w3 hi'.dr)
      have HRY3 := Aside0.mk (Drive.ready_calls base p.gd p.v d' w3 hi'.dr)
      clear hi' hu' u'
      generalize Drive.atI d' = x1 at *
      generalize Drive.readyB d' = r1 at *
      go_wp2_with fail
      refine HDR3.out.mono ?_
      rintro e w4 ⟨rfl, rfl⟩
      go_wp2_with fail
      refine HAT3.out.mono ?_
      rintro e w4 ⟨rfl, rfl⟩
      by_cases hx : x1 = kI
      · have t1 : (x1 != kI) = false := by rw [hx]; simp
        obtain rfl : r1 = false := HX.out.resolve_left (fun e => e hx)
        clear hx
        go_wp2_with fail
        refine HDR3.out.mono ?_
        rintro e w4 ⟨rfl, rfl⟩
        go_wp2_with fail
        refine HRY3.out.mono ?_
        rintro e w4 ⟨rfl, rfl⟩
        go_wp2
        go_ret
        exact ⟨rfl, ⟨d', HG3.out⟩, HT3.out⟩
      · have t1 : (x1 != kI) = true := by simpa using hx
        clear hx
        go_wp2
        go_ret
        exact ⟨rfl, ⟨d', HG3.out⟩, HT3.out⟩
end Go.Proofs.YtaiaapjlpbhlbaaDoor.Ada

namespace Go.Proofs.YtaiaapjlpbhlbaaDoor.Ada
open Go.RowKit Go.Proofs.YtaiaapjlpbhlbaaDoorW.PrintWords Go.Proofs.YtaiaapjlpbhlbaaDoorW.PrintLast Go.Proofs.YtaiaapjlpbhlbaaDoorW.PrintMore
set_option linter.unusedVariables false
set_option linter.unusedSimpArgs false
set_option maxRecDepth 20000
/-- an adapter whose timer was never set: control, in, out, asks, found, sum, tail -/
def stB (c i o : Int) (k f : Bool) (s t : Int) : A := ⟨0, 0, false, false, false, 1, c, i, o, 0, k, f, s, t⟩
theorem aI_stB : aI = stB 0 0 0 false false 32768 0 := rfl
theorem stat_two (e s x r h : Bool) : Go.bits .and .u8 (statI e s x r h) 2 = (if s = true then 2 else 0) := by cases e <;> cases s <;> cases x <;> cases r <;> cases h <;> decide
theorem stat_16 (e s x r h : Bool) : Go.bits .and .u8 (statI e s x r h) 16 = (if x = true then 16 else 0) := by cases e <;> cases s <;> cases x <;> cases r <;> cases h <;> decide
theorem bit85 : bit 85 2 = false ∧ bit 85 4 = true ∧ bit 85 64 = true ∧ bit 85 16 = true := ⟨by decide, by decide, by decide, by decide⟩
/-- what a byte does to one who reads -/
theorem ps_found (i o s t b : Int) (k : Bool) : psA (stB 85 i o k true s t) b = stB 85 b o true true (stp s b) t := by
  unfold psA readA
  rw [if_neg (by show ¬ bit 85 2 = true; decide), if_pos (by show bit 85 4 = true; decide), if_neg (by show ¬ bit 85 64 = false; decide)]
  exact if_pos rfl
theorem ps_mark (i o s t b : Int) (k : Bool) (hb : b ≠ 0) : psA (stB 85 i o k false s t) b = stB 85 i o k true (stp 32768 b) t := by
  unfold psA readA
  rw [if_neg (by show ¬ bit 85 2 = true; decide), if_pos (by show bit 85 4 = true; decide), if_neg (by show ¬ bit 85 64 = false; decide), if_neg (by show ¬ false = true; decide), if_neg hb]
  rfl
theorem ps_zero (i o s t : Int) (k : Bool) : psA (stB 85 i o k false s t) 0 = stB 85 i o k false s t := by
  unfold psA readA
  rw [if_neg (by show ¬ bit 85 2 = true; decide), if_pos (by show bit 85 4 = true; decide), if_neg (by show ¬ bit 85 64 = false; decide), if_neg (by show ¬ false = true; decide), if_pos rfl]
theorem psL_read (i o s t : Int) (k f : Bool) (l : List Int) (n : Nat) : psL (stB 85 i o k f s t) l n = l := by
  unfold psL
  rw [if_neg (by show ¬ bit 85 2 = true; decide), if_pos (by show bit 85 4 = true; decide)]
theorem Hd.ofOk {base : Nat} {W : World} {p : P} {a a' : A} {d : Drv.D} {l : List Int} {t : Int} (h : Hd base W p a d l t) {W1 : World} (hi : ∀ u, Is base W p a d u → Is base W1 p a' d u) (ho : Ok a') (hon : a'.on = false) (hop : a'.opn = 1) : Hd base W1 p a' d l t :=
  ⟨by obtain ⟨u, h1, h2⟩ := h.is_; exact ⟨u, hi u h1, h2⟩, ho, hon, hop, h.runs, h.len, h.byt, h.grd⟩
/-- the status' register -/
theorem stat_hd {base : Nat} {W : World} {p : P} {a : A} {d : Drv.D} {l : List Int} {t : Int} (h : Hd base W p a d l t) (he : a.exp = false) :
    Calls Tryd.prog 14 #[.pointer (some ⟨p.g, 0, none⟩), .int .u16 16432] W fun e W' => (∃ x : Int, e = .returned (.tuple #[.int .u8 x, .bool true]) ∧ Go.bits .and .u8 x 2 = (if a.asks = true then 2 else 0) ∧ Go.bits .and .u8 x 16 = (if (bit a.ctl 16 && decide (a.sum ≠ 0)) = true then 16 else 0)) ∧ Hd base W' p { a with asks := false } d l t ∧ Turn base W W' (Foot p) := by
  obtain ⟨u, hi, hu⟩ := h.is_
  refine (get_status base W p a d u hi (by rw [h.opn]; exact ⟨by decide, by decide⟩) (by rw [h.opn]; decide) h.ok.ctl).mono ?_
  rintro e W' ⟨rfl, hi2, ht⟩
  refine ⟨⟨_, rfl, stat_two _ _ _ _ _, stat_16 _ _ _ _ _⟩, ⟨⟨u, by rw [show ({ a with asks := false } : A) = { a with exp := false, asks := false } by rw [← he]]; exact hi2, hu⟩, ⟨h.ok.from_, h.ok.count, h.ok.ctl, h.ok.out, h.ok.sum, h.ok.tail⟩, h.on, h.opn, h.runs, h.len, h.byt, h.grd⟩, ht⟩
theorem in_hd {base : Nat} {W : World} {p : P} {a : A} {d : Drv.D} {l : List Int} {t : Int} (h : Hd base W p a d l t) :
    Calls Tryd.prog 14 #[.pointer (some ⟨p.g, 0, none⟩), .int .u16 16433] W fun e W' => e = .returned (.tuple #[.int .u8 a.inn, .bool true]) ∧ Hd base W' p { a with asks := false } d l t ∧ Turn base W W' (Foot p) := by
  obtain ⟨u, hi, hu⟩ := h.is_
  refine (get_in base W p a d u hi (by rw [h.opn]; exact ⟨by decide, by decide⟩) (by rw [h.opn]; decide)).mono ?_
  rintro e W' ⟨rfl, hi2, ht⟩
  exact ⟨rfl, ⟨⟨u, hi2, hu⟩, ⟨h.ok.from_, h.ok.count, h.ok.ctl, h.ok.out, h.ok.sum, h.ok.tail⟩, h.on, h.opn, h.runs, h.len, h.byt, h.grd⟩, ht⟩
/-- registers that are put -/
theorem put25_hd {base : Nat} {W : World} {p : P} {a : A} {d : Drv.D} {l : List Int} {t : Int} (h : Hd base W p a d l t) (b : Int) (hb : U8 b) (h1 : bit b 1 = true) (hm : Wave.MS W) :
    Calls Tryd.prog 11 #[.pointer (some ⟨p.g, 0, none⟩), .int .u16 16421, .int .u8 b] W fun e W' => e = .returned (.tuple #[]) ∧ Hd base W' p (cmdA a b) d l t ∧ Turn base W W' (Foot p) := by
  obtain ⟨u, hi, hu⟩ := h.is_
  refine (put_calls base W p a d u hi (by rw [h.opn]; exact ⟨by decide, by decide⟩) hu.wf hm 16421 b ⟨by decide, by decide⟩ hb).mono ?_
  rintro e W' ⟨rfl, hi2, ht⟩
  have e1 : putA a 16421 b = cmdA a b := by unfold putA diskA; rw [if_neg (by decide), if_pos (by rw [h.opn]; decide), if_neg (by decide), if_pos rfl]
  have e2 : putD a d 16421 b = d := by unfold putD diskD mot; rw [if_neg (by decide), if_pos (by rw [h.opn]; decide), if_pos rfl, if_pos (by rw [h1]; exact h.runs.1)]
  have e3 : putU a u 16421 b = u := by unfold putU; rw [if_neg (fun e => absurd e.1 (by decide))]
  rw [e1, e2, e3] at hi2
  have hc : Ok (cmdA a b) ∧ (cmdA a b).on = a.on ∧ (cmdA a b).opn = a.opn := by
    unfold cmdA
    split
    · exact ⟨⟨h.ok.from_, h.ok.count, hb, h.ok.out, h.ok.sum, h.ok.tail⟩, rfl, rfl⟩
    · exact ⟨⟨h.ok.from_, h.ok.count, hb, h.ok.out, ⟨by dsimp only; decide, by dsimp only; decide⟩, ⟨by dsimp only; decide, by dsimp only; decide⟩⟩, rfl, rfl⟩
  exact ⟨rfl, ⟨⟨u, hi2, hu⟩, hc.1, hc.2.1.trans h.on, hc.2.2.trans h.opn, h.runs, h.len, h.byt, h.grd⟩, ht⟩
theorem put24_hd {base : Nat} {W : World} {p : P} {a : A} {d : Drv.D} {l : List Int} {t : Int} (h : Hd base W p a d l t) (b : Int) (hb : U8 b) (hm : Wave.MS W) :
    Calls Tryd.prog 11 #[.pointer (some ⟨p.g, 0, none⟩), .int .u16 16420, .int .u8 b] W fun e W' => e = .returned (.tuple #[]) ∧ Hd base W' p { a with out := b, asks := false } d l t ∧ Turn base W W' (Foot p) := by
  obtain ⟨u, hi, hu⟩ := h.is_
  refine (put_calls base W p a d u hi (by rw [h.opn]; exact ⟨by decide, by decide⟩) hu.wf hm 16420 b ⟨by decide, by decide⟩ hb).mono ?_
  rintro e W' ⟨rfl, hi2, ht⟩
  have e1 : putA a 16420 b = { a with out := b, asks := false } := by unfold putA diskA; rw [if_neg (by decide), if_pos (by rw [h.opn]; decide), if_pos rfl]
  have e2 : putD a d 16420 b = d := by unfold putD diskD; rw [if_neg (by decide), if_pos (by rw [h.opn]; decide), if_neg (by decide)]
  have e3 : putU a u 16420 b = u := by unfold putU; rw [if_neg (fun e => absurd e.1 (by decide))]
  rw [e1, e2, e3] at hi2
  exact ⟨rfl, ⟨⟨u, hi2, hu⟩, ⟨h.ok.from_, h.ok.count, h.ok.ctl, hb, h.ok.sum, h.ok.tail⟩, h.on, h.opn, h.runs, h.len, h.byt, h.grd⟩, ht⟩
/-- the motor is turned on -/
theorem put25_go {base : Nat} {W : World} {p : P} {a : A} {l : List Int} {u : Wave.V} (hi : Is base W p a (Drive.back { d0 with side := l }) u) (hu : Wave.Okv u) (ok : Ok a) (on : a.on = false) (opn : a.opn = 1) (hl0 : l ≠ []) (hl1 : l.length ≤ 65536) (hby : ∀ j, U8 (rd l j)) (b : Int) (hb : U8 b) (h1 : bit b 1 = true) (hm : Wave.MS W) :
    Calls Tryd.prog 11 #[.pointer (some ⟨p.g, 0, none⟩), .int .u16 16421, .int .u8 b] W fun e W' => e = .returned (.tuple #[]) ∧ (∃ d, Hd base W' p (cmdA a b) d l 0) ∧ Turn base W W' (Foot p) := by
  refine (put_calls base W p a _ u hi (by rw [opn]; exact ⟨by decide, by decide⟩) hu.wf hm 16421 b ⟨by decide, by decide⟩ hb).mono ?_
  rintro e W' ⟨rfl, hi2, ht⟩
  have e1 : putA a 16421 b = cmdA a b := by unfold putA diskA; rw [if_neg (by decide), if_pos (by rw [opn]; decide), if_neg (by decide), if_pos rfl]
  have e2 : putD a (Drive.back { d0 with side := l }) 16421 b = Drive.back { Drive.back { d0 with side := l } with motor := true } := by unfold putD diskD mot; rw [if_neg (by decide), if_pos (by rw [opn]; decide), if_pos rfl, h1, if_neg (by show ¬ false = true; decide)]
  have e3 : putU a u 16421 b = u := by unfold putU; rw [if_neg (fun e => absurd e.1 (by decide))]
  rw [e1, e2, e3] at hi2
  have hc : Ok (cmdA a b) ∧ (cmdA a b).on = a.on ∧ (cmdA a b).opn = a.opn := by
    unfold cmdA
    split
    · exact ⟨⟨ok.from_, ok.count, hb, ok.out, ok.sum, ok.tail⟩, rfl, rfl⟩
    · exact ⟨⟨ok.from_, ok.count, hb, ok.out, ⟨by dsimp only; decide, by dsimp only; decide⟩, ⟨by dsimp only; decide, by dsimp only; decide⟩⟩, rfl, rfl⟩
  have hr := Drive.Runs.of_back (d := { Drive.back { d0 with side := l } with motor := true }) rfl hl0
  exact ⟨rfl, ⟨_, ⟨⟨u, hi2, hu⟩, hc.1, hc.2.1.trans on, hc.2.2.trans opn, hr, hl1, hby, rfl⟩⟩, ht⟩
/-- what is ahead of one who reads: at kk the byte that asks, with the sum s2 -/
def Ahead (l : List Int) (f : Bool) (j : Nat) (s : Int) (kk : Nat) (s2 : Int) (room : Nat) : Prop :=
  (f = true ∧ j = kk ∧ s = s2 ∧ 1 ≤ room) ∨ (f = false ∧ ∃ z, kk = j + z + 1 ∧ (∀ q, q < z → rd l ((j + q : Nat) : Int) = 0) ∧ rd l ((j + z : Nat) : Int) ≠ 0 ∧ s2 = stp 32768 (rd l ((j + z : Nat) : Int)) ∧ z + 2 ≤ room)
theorem Ahead.le {l : List Int} {f : Bool} {j : Nat} {s : Int} {kk : Nat} {s2 : Int} {room : Nat} (h : Ahead l f j s kk s2 room) : j ≤ kk ∧ 1 ≤ room := by
  rcases h with ⟨_, h, _, hr⟩ | ⟨_, z, h, _, _, _, hr⟩
  · exact ⟨by omega, hr⟩
  · exact ⟨by omega, by omega⟩
theorem Ahead.step {l : List Int} {j : Nat} {s : Int} {kk : Nat} {s2 : Int} {room : Nat} (i o t : Int) (h : Ahead l false j s kk s2 room) : ∃ f' s', psA (stB 85 i o false false s t) (rd l (j : Int)) = stB 85 i o false f' s' t ∧ Ahead l f' (j + 1) s' kk s2 (room - 1) := by
  rcases h with ⟨h, _⟩ | ⟨_, z, hk, h0, hm, hs, hr⟩
  · cases h
  · rcases z with _ | z
    · rw [Nat.add_zero] at hm hs
      exact ⟨true, stp 32768 (rd l (j : Int)), ps_mark _ _ _ _ _ _ hm, .inl ⟨rfl, by omega, hs.symm, by omega⟩⟩
    · have z0 := h0 0 (by omega)
      rw [Nat.add_zero] at z0
      rw [z0]
      exact ⟨false, s, ps_zero _ _ _ _ _, .inr ⟨rfl, z, by omega, fun q hq => by rw [show j + 1 + q = j + (q + 1) by omega]; exact h0 (q + 1) (by omega), by rw [show j + 1 + z = j + (z + 1) by omega]; exact hm, by rw [show j + 1 + z = j + (z + 1) by omega]; exact hs, by omega⟩⟩
set_option maxHeartbeats 8000000 in
theorem pull_to (base : Nat) (W : World) (p : P) (i0 o t : Int) (f : Bool) (s : Int) (l : List Int) (k kk : Nat) (s2 : Int) (h : ∃ d, Hd base W p (stB 85 i0 o false f s t) d l (T k)) (ha : Ahead l f k s kk s2 600) (hk : kk < l.length) (hts : Wave.TS W) (hgb : 1 < base) :
    Calls Tryd.prog 74 #[.pointer (some ⟨p.g, 0, none⟩)] W fun e W' => e = .returned (.tuple #[.int .u8 (rd l (kk : Int)), .bool true]) ∧ (∃ d, Hd base W' p (stB 85 (rd l (kk : Int)) o false true (stp s2 (rd l (kk : Int))) t) d l (T (kk + 1))) ∧ Turn base W W' (Foot p) := by
  have H := Aside0.mk h
  have HA := Aside0.mk ha
  have HK := Aside0.mk hk
  have HTS := Aside0.mk (fun (W1 : World) (hb : Below base W W1) => hts.below hb hgb)
  have HG := Aside0.mk hgb
  clear h ha hk hts hgb
  go_enter Tryd.func74, Tryd.ntmps74
  go_wp2_with fail
  go_loopg [6] 600 (fun kq v6 w' => ∃ (i : Nat) (f : Bool) (s : Int) (j : Nat), v6 = .int .i64 (i : Int) ∧ Aside0 (∃ d, Hd base w' p (stB 85 i0 o false f s t) d l (T j)) ∧ Aside0 ((i : Int) + kq = 600 ∧ Ahead l f j s kk s2 (600 - i)) ∧ Aside0 (Turn base W w' (Foot p)))
  case atStart => exact ⟨0, f, s, k, rfl, H, ⟨by decide, HA.out⟩, ⟨Drive.Turn.refl _ _ _⟩⟩
  case round =>
    clear H HA
    obtain ⟨i, f, s, j, rfl, HR, HI, HT⟩ := hrel
    have hle := HI.out.2.le
    have d1 : decide ((i : Int) < 600) = true := decide_eq_true (by omega)
    have e1 : wrap64 ((i : Int) + 1) = ((i + 1 : Nat) : Int) := by rw [Wave.wr64 (by omega) (by omega)]; rfl
    have HP := Aside0.mk (passes_to base wr p _ l j HR.out (Nat.lt_of_le_of_lt hle.1 HK.out) (HTS.out _ HT.out.below) HG.out)
    rw [psL_read] at HP
    clear hle
    cases f
    · obtain ⟨f', s', hps, hah⟩ := HI.out.2.step i0 o t
      rw [hps] at HP
      have HAH := Aside0.mk hah
      clear hps hah
      go_wp2_with fail
      refine HP.out.mono ?_
      rintro e w2 ⟨rfl, ⟨d2, h2⟩, ht⟩
      have T2 := Aside0.mk (HT.out.trans ht)
      have HS := Aside0.mk (stat_hd h2 rfl)
      clear h2 ht
      go_wp2_with fail
      refine HS.out.mono ?_
      rintro e w3 ⟨⟨x, rfl, hx, hx16⟩, h3, ht⟩
      have hx : Go.bits .and .u8 x 2 = 0 := hx
      have H3 := Aside0.mk (show ∃ d, Hd base w3 p (stB 85 i0 o false f' s' t) d l (T (j + 1)) from ⟨d2, h3⟩)
      have T3 := Aside0.mk (T2.out.trans ht)
      clear h3 ht hx16
      go_wp2
      go_roundg (gk - 1)
      case measure => have := HI.out.1; have := HI.out.2.le; omega
      case rel => exact ⟨i + 1, f', s', j + 1, by first | rfl | (congr 1), H3, ⟨by have := HI.out.1; have := HI.out.2.le; push_cast; omega, by rw [show 600 - (i + 1) = 600 - i - 1 by omega]; exact HAH.out⟩, T3⟩
    · obtain ⟨hj, hs⟩ : j = kk ∧ s = s2 := by
        rcases HI.out.2 with ⟨_, hj, hs, _⟩ | ⟨h, _⟩
        · exact ⟨hj, hs⟩
        · cases h
      subst hj
      subst hs
      rw [ps_found] at HP
      go_wp2_with fail
      refine HP.out.mono ?_
      rintro e w2 ⟨rfl, ⟨d2, h2⟩, ht⟩
      have T2 := Aside0.mk (HT.out.trans ht)
      have HS := Aside0.mk (stat_hd h2 rfl)
      clear h2 ht
      go_wp2_with fail
      refine HS.out.mono ?_
      rintro e w3 ⟨⟨x, rfl, hx, hx16⟩, h3, ht⟩
      have hx : Go.bits .and .u8 x 2 = 2 := hx
      have T3 := Aside0.mk (T2.out.trans ht)
      have HIN := Aside0.mk (in_hd h3)
      clear h3 ht hx16
      go_wp2_with fail
      refine HIN.out.mono ?_
      rintro e w4 ⟨rfl, h4, ht⟩
      have H4 := Aside0.mk (show ∃ d, Hd base w4 p (stB 85 (rd l (j : Int)) o false true (stp s (rd l (j : Int))) t) d l (T (j + 1)) from ⟨d2, h4⟩)
      have T4 := Aside0.mk (T3.out.trans ht)
      clear h4 ht
      go_wp2
      first | go_ret2 | ((try simp only [Exit.inBlock, Exit.then]); refine bodyPost_ret (results_tmp2 rfl _ _ _) rfl ?_)
      exact ⟨rfl, H4.out, T4.out⟩
end Go.Proofs.YtaiaapjlpbhlbaaDoor.Ada

namespace Go.Proofs.YtaiaapjlpbhlbaaDoor.Ada
open Go.RowKit Go.Proofs.YtaiaapjlpbhlbaaDoorW.PrintWords Go.Proofs.YtaiaapjlpbhlbaaDoorW.PrintLast Go.Proofs.YtaiaapjlpbhlbaaDoorW.PrintMore
set_option linter.unusedVariables false
set_option linter.unusedSimpArgs false
set_option maxRecDepth 20000
theorem infoU8 : (Tryd.prog.info? 5).map (fun i => (i.zero, i.size, i.bytes)) = some (some (.int .u8 0), 1, 1) := by kernel_rfl
/-- the sum behind bytes -/
def stpL (s : Int) (q : List Int) : Int := q.foldl stp s
theorem stpL_snoc (s : Int) (q : List Int) (b : Int) : stpL s (q ++ [b]) = stp (stpL s q) b := by unfold stpL; rw [List.foldl_append]; rfl
/-- the adapter's blocks lie below B -/
structure Low (p : P) (B : Nat) : Prop where
  a1 : p.g < B
  a2 : p.gd < B
  a3 : p.gw < B
  a4 : ∀ k, p.v.ownBlock = some k → k < B
theorem Is.low {base : Nat} {W : World} {p : P} {a : A} {d : Drv.D} {u : Wave.V} (h : Is base W p a d u) : Low p W.heap.size := ⟨h.at_.lt, h.dr.1.lt, h.wv.at_.lt, fun k hk => Kd.R_lt h.dr.2.2.1 k hk⟩
theorem Low.mono {p : P} {B C : Nat} (h : Low p B) (hb : B ≤ C) : Low p C := ⟨Nat.lt_of_lt_of_le h.a1 hb, Nat.lt_of_lt_of_le h.a2 hb, Nat.lt_of_lt_of_le h.a3 hb, fun k hk => Nat.lt_of_lt_of_le (h.a4 k hk) hb⟩
theorem Low.not {p : P} {B i : Nat} (h : Low p B) (hi : B ≤ i) : ¬ Foot p i := by
  rintro (e | e | e | e)
  · have := h.a1; omega
  · have := h.a2; omega
  · have := h.a3; omega
  · have := h.a4 _ e; omega
theorem Is.keptB {base B : Nat} {W W1 : World} {p : P} {a : A} {d : Drv.D} {u : Wave.V} (h : Is base W p a d u) (lo : Low p B) (hb : Below B W W1) : Is base W1 p a d u :=
  ⟨(hb.block p.g lo.a1).trans h.at_, h.bs, ⟨(hb.block p.gd lo.a2).trans h.dr.1, h.dr.2.1, R_kept (S := fun i => B ≤ i) h.dr.2.2.1 (fun i _ hi => hb.block i (by omega)) (fun k hk => by have := lo.a4 k hk; omega), h.dr.2.2.2⟩, ⟨(hb.block p.gw lo.a3).trans h.wv.at_, h.wv.base, h.wv.lt, h.wv.ln, h.wv.lr⟩, h.ne1, h.ne2, h.ne3, h.own⟩
theorem Hd.keptB {base B : Nat} {W W1 : World} {p : P} {a : A} {d : Drv.D} {l : List Int} {t : Int} (h : Hd base W p a d l t) (lo : Low p B) (hb : Below B W W1) : Hd base W1 p a d l t :=
  ⟨by obtain ⟨u, h1, h2⟩ := h.is_; exact ⟨u, h1.keptB lo hb, h2⟩, h.ok, h.on, h.opn, h.runs, h.len, h.byt, h.grd⟩
theorem Turn.over {base : Nat} {W C D : World} {S : Nat → Prop} (h : Drive.Turn base W C S) (hb : Below W.heap.size C D) (hB : base ≤ W.heap.size) : Drive.Turn base W D S :=
  ⟨h.below.trans (hb.mono hB), fun i hi hn => (hb.block i hi).trans (h.kept i hi hn)⟩
theorem R_turn {base B : Nat} {W W' : World} {p : P} {v : Value} {xs : List Int} (h : (Kd.int .u8).R 5 W B (fun _ => True) v xs) (lo : Low p B) (ht : Drive.Turn base W W' (Foot p)) : (Kd.int .u8).R 5 W' B (fun _ => True) v xs :=
  R_kept h ht.kept (fun k hk => lo.not (Kd.R_base h k hk))
theorem cmd85 (i o : Int) : cmdA (stB 5 i o false false 32768 0) 85 = stB 85 i o false false 32768 0 := by
  unfold cmdA
  rw [if_pos ⟨by decide, by decide⟩]
  rfl
theorem take_snoc (l : List Int) (k m i : Nat) (hi : i < m) (hl : k + m ≤ l.length) : ((l.drop k).take m).take (i + 1) = ((l.drop k).take m).take i ++ [rd l ((k + i : Nat) : Int)] := by
  rw [List.take_take, List.take_take, Nat.min_eq_left (by omega), Nat.min_eq_left (by omega), List.take_succ_eq_append_getElem (by rw [List.length_drop]; omega)]
  congr 1
  unfold rd
  rw [Int.toNat_natCast, List.getD_eq_getElem?_getD, List.getElem?_eq_getElem (by omega)]
  simp
/-- where one stands behind i bytes that asked -/
def Stand (l : List Int) (k z : Nat) (m : Nat) (i : Nat) (f : Bool) (j : Nat) (s : Int) : Prop :=
  (i = 0 ∧ f = false ∧ j = k ∧ s = 32768) ∨ (0 < i ∧ f = true ∧ j = k + z + 1 + i ∧ s = stpL (stp 32768 (rd l ((k + z : Nat) : Int))) (((l.drop (k + z + 1)).take m).take i))
theorem Stand.ahead {l : List Int} {k z m i : Nat} {f : Bool} {j : Nat} {s : Int} (h : Stand l k z m i f j s) (hz : ∀ q, q < z → rd l ((k + q : Nat) : Int) = 0) (hm : rd l ((k + z : Nat) : Int) ≠ 0) (hz2 : z + 2 ≤ 600) :
    Ahead l f j s (k + z + 1 + i) (stpL (stp 32768 (rd l ((k + z : Nat) : Int))) (((l.drop (k + z + 1)).take m).take i)) 600 := by
  rcases h with ⟨rfl, rfl, rfl, rfl⟩ | ⟨h0, rfl, rfl, rfl⟩
  · exact .inr ⟨rfl, z, rfl, hz, hm, rfl, hz2⟩
  · exact .inl ⟨rfl, rfl, rfl, by decide⟩
theorem Stand.next {l : List Int} {k z m i : Nat} (hi : i < m) (hl : k + z + 1 + m ≤ l.length) : Stand l k z m (i + 1) true (k + z + 1 + i + 1) (stp (stpL (stp 32768 (rd l ((k + z : Nat) : Int))) (((l.drop (k + z + 1)).take m).take i)) (rd l ((k + z + 1 + i : Nat) : Int))) :=
  .inr ⟨by omega, rfl, by omega, by rw [take_snoc l (k + z + 1) m i hi hl, stpL_snoc]⟩
set_option maxHeartbeats 8000000 in
theorem read_core (base : Nat) (W : World) (p : P) (l Q : List Int) (k z n m : Nat) (i0 o s0 : Int) (hmn : m = n + 2) (hQ : Q = (l.drop (k + z + 1)).take m) (hs0 : s0 = stp 32768 (rd l ((k + z : Nat) : Int)))
    (hput : Calls Tryd.prog 11 #[.pointer (some ⟨p.g, 0, none⟩), .int .u16 16421, .int .u8 5] W fun e W' => e = .returned (.tuple #[]) ∧ (∃ d, Hd base W' p (stB 5 i0 o false false 32768 0) d l (T k)) ∧ Turn base W W' (Foot p))
    (lo : Low p W.heap.size) (hbase : base ≤ W.heap.size) (hz : ∀ q, q < z → rd l ((k + q : Nat) : Int) = 0) (hm : rd l ((k + z : Nat) : Int) ≠ 0) (hz2 : z + 2 ≤ 600) (hn : n ≤ 65536) (hl : k + z + 1 + m ≤ l.length)
    (hms : Wave.MS W) (hgm : 0 < base) (hts : Wave.TS W) (hgb : 1 < base) :
    Calls Tryd.prog 37 #[.pointer (some ⟨p.g, 0, none⟩), .int .i64 (n : Int)] W fun e W' =>
      (∃ (A : Option Addr) (c : Nat), e = .returned (.tuple #[.slice A n c, .bool (decide (stpL s0 Q = 0))]) ∧ n ≤ c ∧ (Kd.int .u8).C W' A n (Q.take n)) ∧
      (∃ i' d, Hd base W' p (stB 85 i' o false true (stpL s0 Q) 0) d l (T (k + z + 1 + m))) ∧ Turn base W W' (Foot p) := by
  have HPUT := Aside0.mk hput
  have LO := Aside0.mk lo
  have HBS := Aside0.mk hbase
  have HZ := Aside0.mk (And.intro hz (And.intro hm hz2))
  have HL := Aside0.mk (And.intro hn hl)
  have HMS := Aside0.mk (fun (W1 : World) (hb : Below base W W1) => hms.below hb hgm)
  have HTS := Aside0.mk (fun (W1 : World) (hb : Below base W W1) => hts.below hb hgb)
  have HG := Aside0.mk hgb
  obtain ⟨N, hN⟩ : ∃ N : Int, N = (m : Int) := ⟨_, rfl⟩
  have e2 : wrap64 ((n : Int) + 2) = N := by rw [Wave.wr64 (by omega) (by omega)]; omega
  have HN := Aside0.mk hN
  clear hN
  have HM := Aside0.mk hmn
  have HQD := Aside0.mk hQ
  have HSD := Aside0.mk hs0
  have HQ := Aside0.mk (show Q.length = m by rw [hQ, List.length_take, List.length_drop]; omega)
  clear hput lo hbase hz hm hz2 hn hl hms hgm hts hgb hmn hQ hs0
  go_enter Tryd.func37, Tryd.ntmps37
  go_wp2_with fail
  refine HPUT.out.mono ?_
  rintro e w1 ⟨rfl, ⟨d1, h1⟩, ht⟩
  have T1 := Aside0.mk ht
  have HP2 := Aside0.mk (put25_hd h1 85 ⟨by decide, by decide⟩ (by decide) (HMS.out _ ht.below))
  rw [cmd85] at HP2
  clear h1 ht HPUT
  go_wp2_with fail
  refine HP2.out.mono ?_
  rintro e w2 ⟨rfl, h2, ht⟩
  have H2 := Aside0.mk h2
  have T2 := Aside0.mk (T1.out.trans ht)
  clear h2 ht HP2
  go_wp2_with fail
  generalize hB : W.heap.size = B at *
  have HB := Aside0.mk hB
  clear hB
  rw [e2]
  clear e2
  go_loopg [6, 17] m (fun kq v6 v17 w' => ∃ (i : Nat) (vo : Value), v6 = vo ∧ v17 = .int .i64 (i : Int) ∧ Aside0 ((i : Int) + kq = N) ∧ Aside0 ((Kd.int .u8).R 5 w' B (fun _ => True) vo (Q.take i)) ∧ Aside0 (∃ (i' : Int) (f : Bool) (j : Nat) (s : Int) (d : Drv.D), Hd base w' p (stB 85 i' o false f s 0) d l (T j) ∧ Stand l k z m i f j s) ∧ Aside0 (Turn base W w' (Foot p)))
  case atStart => exact ⟨0, _, rfl, rfl, ⟨by have := HN.out; omega⟩, ⟨Kd.R_nil _ _ _ _ _⟩, ⟨_, _, _, _, _, H2.out, .inl ⟨rfl, rfl, rfl, rfl⟩⟩, T2⟩
  case round =>
    clear H2 T2 T1
    obtain ⟨i, vo, rfl, rfl, HI, HO, HS, HT⟩ := hrel
    have e1 : wrap64 ((i : Int) + 1) = ((i + 1 : Nat) : Int) := by rw [Wave.wr64 (by omega) (by have := HI.out; have := HL.out.1; have := HM.out; have := HN.out; omega)]; rfl
    by_cases hlt : i < m
    · have d1 : decide ((i : Int) < N) = true := decide_eq_true (by have := HN.out; omega)
      have HLT := Aside0.mk hlt
      obtain ⟨i', f, j, s, d, hd, hst⟩ := HS.out
      have hah := hst.ahead HZ.out.1 HZ.out.2.1 HZ.out.2.2
      rw [← HSD.out, ← HQD.out] at hah
      have HP := Aside0.mk (pull_to base wr p i' o 0 f s l j (k + z + 1 + i) _ ⟨d, hd⟩ hah (by have := HL.out.2; omega) (HTS.out _ HT.out.below) HG.out)
      clear hd hst hlt hah
      obtain ⟨qs, hqs⟩ : ∃ qs, qs = Q.take i := ⟨_, rfl⟩
      have HQS := Aside0.mk hqs
      rw [← hqs] at HO HP
      clear hqs
      obtain ⟨bb, hbb⟩ : ∃ bb, bb = rd l ((k + z + 1 + i : Nat) : Int) := ⟨_, rfl⟩
      have HBB := Aside0.mk hbb
      rw [← hbb] at HP
      clear hbb
      have HQL := Aside0.mk (show qs.length ≤ 100000 by rw [HQS.out, List.length_take, HQ.out]; have := HL.out.1; have := HM.out; omega)
      go_wp2_with fail
      refine HP.out.mono ?_
      rintro e w3 ⟨rfl, ⟨d3, h3⟩, ht⟩
      have H3 := Aside0.mk h3
      have HO3 := Aside0.mk (R_turn HO.out LO.out ht)
      have T3 := Aside0.mk (HT.out.trans ht)
      have S3 := Aside0.mk (show B ≤ w3.heap.size by have := T3.out.below.size; rw [HB.out] at this; exact this)
      clear h3 ht HO HP HS HT
      go_wp2_with (first | ((with_reducible refine gate_builtin (b := .append) (xs := #[.tmp 26, .tmp 28]) rfl ?_); at_builtin; refine Kd.R_append (Kd.int .u8) (w0 := w3) B rfl (.tmp 26) (.tmp 28) 36 5 (.int .u8 0) 1 rfl Tryd.underlying36 infoU8 rfl (by decide) (by omega) _ qs bb [.int .u8 bb] (fun _ => True) (fun _ => False) rfl rfl ?aP (fun _ hk => hk.elim) ?aF ?aO ?aB ?aS ?aL ?_; (case aP => exact rfl); (case aB => exact (by repeat (first | exact Below.refl _ _ | apply below_alloc | apply pw_below_drewN | apply below_drew1))); (case aF => exact (fun _ _ => trivial)); (case aO => exact (by (with_reducible repeat (first | apply Kd.R_alloc | apply Kd.R_drewN | apply Kd.R_drew)); exact HO3.out)); (case aS => exact S3.out); (case aL => have := HQL.out; omega); intro v4 w4 ho hb hg hat; have HO4 := Aside0.mk ho; have HB4 := Aside0.mk hb; clear ho hb hg hat) | fail)
      have HROW := Aside0.mk (show (Kd.int .u8).R 5 w4 B (fun _ => True) v4 (Q.take (i + 1)) from by
        have := HO4.out
        rw [HQD.out, take_snoc l (k + z + 1) m i HLT.out HL.out.2, ← HQD.out, ← HQS.out, ← HBB.out]
        exact this)
      have HHD := Aside0.mk (show ∃ (i' : Int) (f : Bool) (j : Nat) (s : Int) (d : Drv.D), Hd base w4 p (stB 85 i' o false f s 0) d l (T j) ∧ Stand l k z m (i + 1) f j s from
        ⟨_, _, _, _, d3, H3.out.keptB LO.out HB4.out, by have := Stand.next (l := l) (k := k) (z := z) HLT.out HL.out.2; rw [← HSD.out, ← HQD.out, ← HQS.out, ← HBB.out] at this; exact this⟩)
      have HTN := Aside0.mk (show Turn base W w4 (Foot p) from Turn.over T3.out (by rw [HB.out]; exact HB4.out) (by rw [HB.out]; exact HBS.out))
      clear HO4 HB4 HO3 H3 T3 S3
      try go_wp2
      go_roundg (gk - 1)
      case measure => have := HI.out; have := HLT.out; have := HN.out; omega
      case rel => exact ⟨i + 1, _, rfl, by first | rfl | (congr 1), ⟨by have := HI.out; have := HLT.out; have := HN.out; push_cast; omega⟩, HROW, HHD, HTN⟩
    · have d1 : decide ((i : Int) < N) = false := decide_eq_false (by have := HN.out; omega)
      obtain rfl : i = m := by have := HI.out; have := HN.out; omega
      obtain ⟨i', f, j, s, d, hd, hst⟩ := HS.out
      obtain ⟨rfl, rfl, rfl⟩ : f = true ∧ j = k + z + 1 + i ∧ s = stpL s0 Q := by
        rcases hst with ⟨h, _⟩ | ⟨_, h1, h2, h3⟩
        · have := HM.out; omega
        · exact ⟨h1, h2, by rw [h3, ← HSD.out, ← HQD.out, List.take_of_length_le (Nat.le_of_eq HQ.out)]⟩
      have HST := Aside0.mk (stat_hd hd rfl)
      have HOF := Aside0.mk (show (Kd.int .u8).R 5 wr B (fun _ => True) u6 Q from by have := HO.out; rwa [List.take_of_length_le (Nat.le_of_eq HQ.out)] at this)
      clear hlt hd hst HS HO
      obtain ⟨A6, c6, e6, hc6, _⟩ := Kd.R_reads HOF.out
      rw [HQ.out] at e6 hc6
      subst e6
      have HC6 := Aside0.mk hc6
      obtain ⟨i0_, hi0_, _, hsz_, _⟩ := info_parts infoU8
      have hcut := cut_to (P := Tryd.prog) 36 5 .i64 Tryd.underlying36 hi0_ A6 i c6 (n : Int) (by omega) (by have := HM.out; omega) hc6
      rw [Int.toNat_natCast] at hcut
      clear hi0_ hsz_ hc6
      go_wp2_with fail
      refine HST.out.mono ?_
      rintro e w3 ⟨⟨x, rfl, hx2, hx16⟩, h3, ht⟩
      have H3 := Aside0.mk h3
      have T3 := Aside0.mk (HT.out.trans ht)
      have HO3 := Aside0.mk (R_turn HOF.out LO.out ht)
      clear h3 ht HT HOF hx2
      have HCN := Aside0.mk (show (Kd.int .u8).C w3 A6 n (Q.take n) from by
        have := Kd.R_take (m := n) HO3.out (by rw [HQ.out]; have := HM.out; omega)
        obtain ⟨A7, c7, e7, _, h7⟩ := Kd.R_reads this
        injection e7 with ea el ec
        rw [← ea, ← el] at h7
        exact h7)
      obtain ⟨S, hS⟩ : ∃ S, S = stpL s0 Q := ⟨_, rfl⟩
      rw [← hS] at hx16 H3
      have HSS := Aside0.mk hS
      clear hS
      by_cases hs : S = 0
      · have hx : Go.bits .and .u8 x 16 = 0 := by rw [hx16]; exact if_neg (by show ¬ (bit 85 16 && decide (S ≠ 0)) = true; rw [hs]; decide)
        have HD := Aside0.mk (decide_eq_true hs)
        clear hx16 hs
        go_wp2
        first | go_ret2 | ((try simp only [Exit.inBlock, Exit.then]); refine bodyPost_ret (results_tmp2 rfl _ _ _) rfl ?_)
        exact ⟨⟨A6, c6, by rw [← HSS.out, HD.out]; rfl, by have := HC6.out; have := HM.out; omega, HCN.out⟩, ⟨_, _, by rw [← HSS.out]; exact H3.out⟩, T3.out⟩
      · have hx : Go.bits .and .u8 x 16 = 16 := by rw [hx16]; exact if_pos (by show (bit 85 16 && decide (S ≠ 0)) = true; rw [decide_eq_true hs]; decide)
        have HD := Aside0.mk (decide_eq_false hs)
        clear hx16 hs
        go_wp2
        first | go_ret2 | ((try simp only [Exit.inBlock, Exit.then]); refine bodyPost_ret (results_tmp2 rfl _ _ _) rfl ?_)
        exact ⟨⟨A6, c6, by rw [← HSS.out, HD.out]; rfl, by have := HC6.out; have := HM.out; omega, HCN.out⟩, ⟨_, _, by rw [← HSS.out]; exact H3.out⟩, T3.out⟩
theorem read_to (base : Nat) (W : World) (p : P) (l : List Int) (k z n : Nat) (i0 o : Int)
    (hput : Calls Tryd.prog 11 #[.pointer (some ⟨p.g, 0, none⟩), .int .u16 16421, .int .u8 5] W fun e W' => e = .returned (.tuple #[]) ∧ (∃ d, Hd base W' p (stB 5 i0 o false false 32768 0) d l (T k)) ∧ Turn base W W' (Foot p))
    (lo : Low p W.heap.size) (hbase : base ≤ W.heap.size) (hz : ∀ q, q < z → rd l ((k + q : Nat) : Int) = 0) (hm : rd l ((k + z : Nat) : Int) ≠ 0) (hz2 : z + 2 ≤ 600) (hn : n ≤ 65536) (hl : k + z + 1 + (n + 2) ≤ l.length)
    (hms : Wave.MS W) (hgm : 0 < base) (hts : Wave.TS W) (hgb : 1 < base) :
    Calls Tryd.prog 37 #[.pointer (some ⟨p.g, 0, none⟩), .int .i64 (n : Int)] W fun e W' =>
      (∃ (A : Option Addr) (c : Nat), e = .returned (.tuple #[.slice A n c, .bool (decide (stpL (stp 32768 (rd l ((k + z : Nat) : Int))) ((l.drop (k + z + 1)).take (n + 2)) = 0))]) ∧ n ≤ c ∧ (Kd.int .u8).C W' A n ((l.drop (k + z + 1)).take n)) ∧
      (∃ i' s' d, Hd base W' p (stB 85 i' o false true s' 0) d l (T (k + z + 1 + (n + 2)))) ∧ Turn base W W' (Foot p) := by
  refine (read_core base W p l _ k z n _ i0 o _ rfl rfl rfl hput lo hbase hz hm hz2 hn hl hms hgm hts hgb).mono ?_
  rintro e W' ⟨⟨A, c, rfl, hc, hC⟩, ⟨i', d, hd⟩, ht⟩
  rw [List.take_take, Nat.min_eq_left (by omega)] at hC
  exact ⟨⟨A, c, rfl, hc, hC⟩, ⟨i', _, d, hd⟩, ht⟩
end Go.Proofs.YtaiaapjlpbhlbaaDoor.Ada

namespace Go.Proofs.YtaiaapjlpbhlbaaDoor.Ada
open Go.RowKit Go.Proofs.YtaiaapjlpbhlbaaDoor.PAdapterReads Go.Proofs.YtaiaapjlpbhlbaaDoor.U Go.Proofs.YtaiaapjlpbhlbaaDoorW.PrintWords Go.Proofs.YtaiaapjlpbhlbaaDoorW.PrintLast Go.Proofs.YtaiaapjlpbhlbaaDoorW.PrintMore
set_option linter.unusedVariables false
set_option linter.unusedSimpArgs false
set_option maxRecDepth 20000
theorem join1_calls (A : Option Addr) (c : Nat) (l : List Int) (W : World) (hC : (Kd.slice 5 (Kd.int .u8)).C W A 1 [l]) (hc : 1 ≤ c) (hy : l.length < 140737488355328) :
    Calls Tryd.prog 36 #[.slice A 1 c] W fun e W' => ∃ v : Value, e = .returned v ∧ Kd.R (Kd.int .u8) 5 W' W.heap.size (fun _ => True) v l ∧ Below W.heap.size W W' := by
  obtain ⟨k, hk⟩ := PureR.join_ev [l] (show 1 < 1000000000 by decide) (by simpa using hy)
  have h := hk k (Nat.le_refl _)
  simp only [List.flatten_cons, List.flatten_nil, List.append_nil] at h
  exact kotatsuref01_Join.callsR k A c [l] l W hC hc h
theorem join2_calls (A : Option Addr) (c : Nat) (l m : List Int) (W : World) (hC : (Kd.slice 5 (Kd.int .u8)).C W A 2 [l, m]) (hc : 2 ≤ c) (hy : (l ++ m).length < 140737488355328) :
    Calls Tryd.prog 36 #[.slice A 2 c] W fun e W' => ∃ v : Value, e = .returned v ∧ Kd.R (Kd.int .u8) 5 W' W.heap.size (fun _ => True) v (l ++ m) ∧ Below W.heap.size W W' := by
  obtain ⟨k, hk⟩ := PureR.join_ev [l, m] (show 2 < 1000000000 by decide) (by simpa using hy)
  have h := hk k (Nat.le_refl _)
  simp only [List.flatten_cons, List.flatten_nil, List.append_nil] at h
  exact kotatsuref01_Join.callsR k A c [l, m] (l ++ m) W hC hc h
theorem same_calls (A : Option Addr) (c n : Nat) (l : List Int) (A' : Option Addr) (c' n' : Nat) (l' : List Int) (W : World) (hn : l.length = n) (hn' : l'.length = n') (hC : (Kd.int .u8).C W A l.length l) (hc : l.length ≤ c) (hC' : (Kd.int .u8).C W A' l'.length l') (hc' : l'.length ≤ c') (hy : l.length ≤ 140737488355328) :
    Calls Tryd.prog 23 #[.slice A n c, .slice A' n' c'] W fun e W' => e = .returned (.bool (decide (l = l'))) ∧ ∃ n, W' = W.drewN n := by
  subst hn
  subst hn'
  obtain ⟨k, hk⟩ := PureR.same_ev l l' hy
  refine (kotatsuref01_Same.calls k A c l A' c' l' _ W hC hc hC' hc' (hk k (Nat.le_refl _))).mono ?_
  rintro e W' ⟨rfl, ⟨m, rfl⟩⟩
  exact ⟨rfl, m, rfl⟩
theorem C_one (W : World) (A : Option Addr) (c : Nat) (l : List Int) (hC : (Kd.int .u8).C W A l.length l) (hc : l.length ≤ c) : (Kd.slice 5 (Kd.int .u8)).C (W.alloc (.cells #[.slice A l.length c] 36 (0, 0))) (some ⟨W.heap.size, 0, none⟩) 1 [l] := by
  have h : Drive.At (W.alloc (.cells #[.slice A l.length c] 36 (0, 0))) W.heap.size 36 #[.slice A l.length c] := heap_alloc_new W _
  refine ⟨rfl, by decide, fun _ => ⟨_, rfl, fun j p hj => ?_⟩⟩
  cases j with
  | zero =>
    cases hj
    refine ⟨[.slice A l.length c], rfl, ⟨A, c, rfl, hc, Kd.C_below hC (below_alloc (Below.refl _ _) _)⟩, fun i u hu => ?_⟩
    cases i with
    | zero => cases hu; exact h.cell 0
    | succ i => cases hu
  | succ j => cases hj
theorem C_pair (W : World) (A : Option Addr) (c n : Nat) (l : List Int) (A' : Option Addr) (c' n' : Nat) (l' : List Int) (hn : l.length = n) (hn' : l'.length = n') (hC : (Kd.int .u8).C W A n l) (hc : n ≤ c) (hC' : (Kd.int .u8).C W A' n' l') (hc' : n' ≤ c') : (Kd.slice 5 (Kd.int .u8)).C (W.alloc (.cells #[.slice A n c, .slice A' n' c'] 36 (0, 0))) (some ⟨W.heap.size, 0, none⟩) 2 [l, l'] := by
  subst hn
  subst hn'
  have h : Drive.At (W.alloc (.cells #[.slice A l.length c, .slice A' l'.length c'] 36 (0, 0))) W.heap.size 36 #[.slice A l.length c, .slice A' l'.length c'] := heap_alloc_new W _
  refine ⟨rfl, by decide, fun _ => ⟨_, rfl, fun j p hj => ?_⟩⟩
  rcases j with _ | _ | j
  · cases hj
    refine ⟨[.slice A l.length c], rfl, ⟨A, c, rfl, hc, Kd.C_below hC (below_alloc (Below.refl _ _) _)⟩, fun i u hu => ?_⟩
    cases i with
    | zero => cases hu; exact h.cell 0
    | succ i => cases hu
  · cases hj
    refine ⟨[.slice A' l'.length c'], rfl, ⟨A', c', rfl, hc', Kd.C_below hC' (below_alloc (Below.refl _ _) _)⟩, fun i u hu => ?_⟩
    cases i with
    | zero => cases hu; exact h.cell 1
    | succ i => cases hu
  · cases hj
theorem C_byte (W : World) (b : Int) : (Kd.int .u8).C (W.alloc (.cells #[.int .u8 b] 5 (0, 0))) (some ⟨W.heap.size, 0, none⟩) 1 [b] := by
  have hA : Drive.At (W.alloc (.cells #[.int .u8 b] 5 (0, 0))) W.heap.size 5 #[.int .u8 b] := heap_alloc_new W _
  refine Kd.C_of_reads (d := (0 : Int)) ⟨rfl, by decide, fun _ => ⟨_, rfl, fun j hj => ?_⟩⟩
  obtain rfl : j = 0 := by omega
  exact hA.cell 0
theorem small_calls (A : Option Addr) (c : Nat) (L : List (List Nat)) (hL : ∀ x ∈ L, small x) (hlen : L.length ≤ 9223372036854775807) (hll : ∀ x ∈ L, x.length ≤ 9223372036854775807) (n : Nat) (hn : n < 256) (W : World) (hC : (Kd.slice 5 (Kd.int .u8)).C W A (L.map cst).length (L.map cst)) (hc : (L.map cst).length ≤ c) :
    ∃ l : List PureR.Blk, PureR.Few l ∧ Calls Tryd.prog 35 #[.slice A (L.map cst).length c, .int .u8 (n : Int)] W fun e W' => ∃ (A1 : Option Addr) (c1 : Nat) (A2 : Option Addr) (c2 : Nat), e = .returned (.tuple #[.slice A1 l.length c1, .slice A2 (PureR.sideR l).length c2]) ∧ l.length ≤ c1 ∧ Kd.C k67 W' A1 l.length (PureR.bs43 l) ∧ (PureR.sideR l).length ≤ c2 ∧ Kd.C (Kd.int .u8) W' A2 (PureR.sideR l).length (cst (PureR.sideR l)) ∧ Below W.heap.size W W' := by
  obtain ⟨l, hf, k, hk⟩ := PureR.small_ev L hL hlen hll n hn
  refine ⟨l, hf, (kotatsulaw18_small.calls k A c _ _ _ _ W hC hc (hk k (Nat.le_refl _))).mono ?_⟩
  rintro e W' ⟨v0, v1, rfl, h0, h1, hb⟩
  obtain ⟨A1, c1, rfl, l1, g1⟩ := Kd.N_reads h0
  obtain ⟨A2, c2, rfl, l2, g2⟩ := Kd.Q_reads h1
  rw [PureR.bs43_len] at l1 g1
  rw [cst_length] at l2 g2
  exact ⟨A1, c1, A2, c2, by rw [PureR.bs43_len, cst_length], l1, g1, l2, g2, hb⟩
theorem cst_rd (l : List Nat) (i : Nat) : rd (cst l) (i : Int) = ((l.getD i 0 : Nat) : Int) := rd_cst l i
theorem cst_set (l : List Nat) (i x : Nat) : (cst l).set i (x : Int) = cst (l.set i x) := by unfold cst; rw [List.map_set]
theorem small_u8 {l : List Nat} (h : small l) (j : Int) : U8 (rd (cst l) j) := by
  unfold rd
  rw [List.getD_eq_getElem?_getD]
  by_cases hj : j.toNat < (cst l).length
  · rw [List.getElem?_eq_getElem hj]
    have : (cst l)[j.toNat] ∈ cst l := List.getElem_mem hj
    obtain ⟨n, hn, e⟩ := List.mem_map.1 this
    have := h n hn
    show U8 _
    rw [Option.getD_some, ← e]
    exact ⟨by omega, by omega⟩
  · rw [List.getElem?_eq_none (by omega)]; exact ⟨by decide, by decide⟩
theorem side_len {l : List PureR.Blk} (hf : PureR.Few l) : 200 < (PureR.sideR l).length ∧ (PureR.sideR l).length ≤ 1400 := by
  obtain ⟨b, r, e, h⟩ := hf.one
  have h1 := PureR.bodyG_len l
  have h2 := hf.sz
  have h3 := hf.le
  have h4 : PureR.sizeN l = 1 + b.2.length + PureR.sizeN r := by rw [e]; simp [PureR.sizeN]
  have h5 : l.length = r.length + 1 := by rw [e]; rfl
  have h6 : (PureR.sideR l).length = 40 + (PureR.bodyG l).length := by unfold PureR.sideR; rw [List.length_append, List.length_replicate]
  omega
theorem side_small {l : List PureR.Blk} (hf : PureR.Few l) : small (PureR.sideR l) := by
  unfold PureR.sideR
  exact small_append (fun x hx => by rw [List.eq_of_mem_replicate hx]; decide) (PureR.small_bodyG hf.sm)
theorem i64w {x : Int} (h : 0 ≤ x ∧ x < 65536) : IntKind.i64.wrap x = x := by rw [IntKind.wrap_i64]; omega
theorem w16 {x : Int} (h : 0 ≤ x ∧ x < 65536) : wrap64 x = x := Wave.wr64 (by omega) (by omega)
theorem m55 {x : Int} (h : 0 ≤ x) : 0 ≤ x % 55 ∧ x % 55 < 55 := ⟨by omega, by omega⟩
theorem w1n (i : Nat) (h : i < 1000000) : wrap64 ((i : Int) + 1) = ((i + 1 : Nat) : Int) := by rw [Wave.wr64 (by omega) (by omega)]; rfl
theorem w1a (n : Nat) (h : n ≤ 55) : wrap64 (1 + (n : Int)) = ((1 + n : Nat) : Int) := by rw [Wave.wr64 (by omega) (by omega)]; omega
theorem w4242 (a : Nat) (h : a < 55) : wrap64 (42 + (a : Int) - 42) = (a : Int) := by rw [Wave.wr64 (by omega) (by omega)]; omega
theorem w42 (a : Int) (h : 0 ≤ a ∧ a < 55) : wrap64 (42 + a) = 42 + a := Wave.wr64 (by omega) (by omega)
/-- the state of one who has read i blocks -/
def RdSt (base : Nat) (W : World) (p : P) (l : List PureR.Blk) (S : List Int) (i : Nat) : Prop := (i = 0 ∧ Is base W p aI (Drive.back { d0 with side := S }) Wave.v0) ∨ (0 < i ∧ ∃ i' s' d, Hd base W p (stB 85 i' 0 false true s' 0) d S (T (PureR.kpos l i)))
theorem RdSt.keptB {base B : Nat} {W W1 : World} {p : P} {l : List PureR.Blk} {S : List Int} {i : Nat} (h : RdSt base W p l S i) (lo : Low p B) (hb : Below B W W1) : RdSt base W1 p l S i := by
  rcases h with ⟨h0, h⟩ | ⟨h0, i', s', d, h⟩
  · exact .inl ⟨h0, h.keptB lo hb⟩
  · exact .inr ⟨h0, i', s', d, h.keptB lo hb⟩
theorem cmd5 (a : A) (i o : Int) (h : a.from_ = 0 ∧ a.count = 0 ∧ a.on = false ∧ a.rep = false ∧ a.exp = false ∧ a.opn = 1 ∧ a.inn = i ∧ a.out = o ∧ a.wire = 0 ∧ a.asks = false) : cmdA a 5 = stB 5 i o false false 32768 0 := by
  unfold cmdA
  rw [if_neg (by decide)]
  obtain ⟨h1, h2, h3, h4, h5, h6, h7, h8, h9, h10⟩ := h
  unfold stB
  rw [h1, h2, h3, h4, h5, h6, h7, h8, h9, h10]
theorem RdSt.put {base : Nat} {W : World} {p : P} {l : List PureR.Blk} {S : List Int} {i : Nat} (h : RdSt base W p l S i) (hS : S ≠ []) (hl : S.length ≤ 65536) (hby : ∀ j, U8 (rd S j)) (hm : Wave.MS W) :
    ∃ i0, Calls Tryd.prog 11 #[.pointer (some ⟨p.g, 0, none⟩), .int .u16 16421, .int .u8 5] W fun e W' => e = .returned (.tuple #[]) ∧ (∃ d, Hd base W' p (stB 5 i0 0 false false 32768 0) d S (T (PureR.kpos l i))) ∧ Turn base W W' (Foot p) := by
  rcases h with ⟨rfl, h⟩ | ⟨h0, i', s', d, h⟩
  · refine ⟨0, (put25_go h Wave.okv0 ⟨by decide, by decide, ⟨by decide, by decide⟩, ⟨by decide, by decide⟩, by decide, by decide⟩ rfl rfl hS hl hby 5 ⟨by decide, by decide⟩ (by decide) hm).mono ?_⟩
    rintro e W' ⟨rfl, hd, ht⟩
    rw [cmd5 aI 0 0 ⟨rfl, rfl, rfl, rfl, rfl, rfl, rfl, rfl, rfl, rfl⟩] at hd
    exact ⟨rfl, hd, ht⟩
  · refine ⟨i', (put25_hd h 5 ⟨by decide, by decide⟩ (by decide) hm).mono ?_⟩
    rintro e W' ⟨rfl, hd, ht⟩
    rw [cmd5 _ i' 0 ⟨rfl, rfl, rfl, rfl, rfl, rfl, rfl, rfl, rfl, rfl⟩] at hd
    exact ⟨rfl, ⟨d, hd⟩, ht⟩
theorem blk_at {w : World} {ad : Addr} {n : Nat} {l : List PureR.Blk} (h : Kd.C k67 w (some ad) n (PureR.bs43 l)) (i : Nat) (hi : i < n) :
    ∃ A1 c1, w.cell? (ad.add (i * 2)) = some (.int .u8 ((l.getD i (0, [])).1 : Int)) ∧ w.cell? ⟨(ad.add (i * 2)).block, (ad.add (i * 2)).off + 1, none⟩ = some (.slice A1 (l.getD i (0, [])).2.length c1) ∧ (l.getD i (0, [])).2.length ≤ c1 ∧ (Kd.int .u8).C w A1 (l.getD i (0, [])).2.length (cst (l.getD i (0, [])).2) := by
  obtain ⟨ad', A1, c1, e, h0, h1, h2, h3⟩ := at_T67 h (i : Int) (by omega) (by omega)
  cases e
  rw [PureR.rd43, Int.toNat_natCast] at h0 h1
  rw [PureR.rd43] at h2 h3
  simp only [PureR.b43, cst_length] at h0 h1 h2 h3
  exact ⟨A1, c1, h0, h1, h2, h3⟩
theorem below_to {B : Nat} {A C D : World} (hb : Below B A C) (hB : B ≤ C.heap.size) (h : Below C.heap.size C D) : Below B A D := hb.trans (h.mono hB)
theorem ok_bool {n i turn : Nat} (h : n = 0 ↔ (0 < i ∨ turn = 0)) : decide (((n : Nat) : Int) = 0) = (decide (0 < i) || decide (turn = 0)) := by
  by_cases hn : n = 0
  · rw [decide_eq_true (show ((n : Nat) : Int) = 0 by omega)]
    rcases h.1 hn with h | h <;> simp [h]
  · rw [decide_eq_false (show ¬ ((n : Nat) : Int) = 0 by omega)]
    have hno : ¬ (0 < i ∨ turn = 0) := fun e => hn (h.2 e)
    rw [not_or] at hno
    rw [decide_eq_false hno.1, decide_eq_false hno.2]; rfl
theorem ahead_of {S : List Nat} {k z : Nat} {q rest : List Nat} (h : S.drop k = List.replicate z 0 ++ 128 :: (q ++ rest)) :
    (∀ j, j < z → rd (cst S) ((k + j : Nat) : Int) = 0) ∧ rd (cst S) ((k + z : Nat) : Int) = 128 ∧ ((cst S).drop (k + z + 1)).take q.length = cst q ∧ k + z + 1 + q.length ≤ S.length := by
  have hlen := congrArg List.length h
  rw [List.length_drop, List.length_append, List.length_replicate, List.length_cons, List.length_append] at hlen
  have hg : ∀ j, S.getD (k + j) 0 = (List.replicate z 0 ++ 128 :: (q ++ rest)).getD j 0 := by
    intro j
    rw [← h, List.getD_eq_getElem?_getD, List.getD_eq_getElem?_getD, List.getElem?_drop]
  refine ⟨fun j hj => ?_, ?_, ?_, by omega⟩
  · rw [cst_rd, hg, List.getD_eq_getElem?_getD, List.getElem?_append_left (by simpa using hj)]
    simp [List.getElem?_replicate, hj]
  · rw [cst_rd, hg, List.getD_eq_getElem?_getD, List.getElem?_append_right (by simp)]
    simp
  · rw [cst_drop, cst_take]
    congr 1
    rw [show k + z + 1 = k + (z + 1) by omega, ← List.drop_drop, h]
    rw [show List.replicate z 0 ++ 128 :: (q ++ rest) = (List.replicate z 0 ++ [128]) ++ (q ++ rest) by simp]
    rw [List.drop_append_of_le_length (by simp), List.drop_of_length_le (by simp), List.nil_append, List.take_append_of_le_length (Nat.le_refl _), List.take_of_length_le (Nat.le_refl _)]
theorem stpL_cst (q : List Nat) (s : Nat) : stpL (s : Int) (cst q) = ((Crc.gfeed s (bitsL q) : Nat) : Int) := by
  induction q generalizing s with
  | nil => rfl
  | cons b q ih =>
    rw [bitsL_cons, Crc.gfeed_append]
    exact ih _
theorem stp_sum (q : List Nat) (hq : small q) : stpL (stp 32768 128) (cst q) = ((Crc.gfeed 32768 (bitsL (128 :: q)) : Nat) : Int) := by
  rw [bitsL_cons, Crc.gfeed_append]
  exact stpL_cst q _
theorem kpos_next (l : List PureR.Blk) (i : Nat) (hi : i < l.length) : PureR.kpos l (i + 1) = PureR.kpos l i + PureR.zpos i + 1 + (1 + (l.getD i (0, [])).2.length + 2) := by
  obtain ⟨_, _, hz⟩ := PureR.side_at l i hi
  show PureR.ppos l i + (l.getD i (0, [])).2.length + 4 = _
  omega
set_option maxHeartbeats 16000000 in
theorem reads_walk (A : Option Addr) (c : Nat) (L : List (List Nat)) (less turn : Nat) (at_ : Int) (W : World) (hm : Wave.MS W) (hts : Wave.TS W) (hgm : 0 < W.heap.size) (hg : 1 < W.heap.size)
    (hL : ∀ x ∈ L, small x) (hlen : L.length ≤ 9223372036854775807) (hll : ∀ x ∈ L, x.length ≤ 9223372036854775807) (hless : less < 256) (hat : 0 ≤ at_ ∧ at_ < 65536) (hturn : turn < 256) (hC : (Kd.slice 5 (Kd.int .u8)).C W A (L.map cst).length (L.map cst)) (hc : (L.map cst).length ≤ c) :
    Calls Tryd.prog 7 #[.slice A (L.map cst).length c, .int .u8 (less : Int), .int .u16 at_, .int .u8 (turn : Int)] W fun e W' => e = .returned (.bool true) ∧ Below W.heap.size W W' := by
  have HMS := Aside0.mk (fun (W1 : World) (hb : Below W.heap.size W W1) => hm.below hb hgm)
  have HTS := Aside0.mk (fun (W1 : World) (hb : Below W.heap.size W W1) => hts.below hb hg)
  have HGT := Aside0.mk (And.intro hgm hg)
  have HAW := Aside0.mk (awake_calls W hts hg)
  have HCA := Aside0.mk (fun (W1 : World) (hb : Below W.heap.size W W1) => small_calls A c L hL hlen hll less hless W1 (Kd.C_below hC hb) hc)
  have HT := Aside0.mk hturn
  have hHB : (L.map cst).length = L.length := List.length_map _
  have wn1 : wrap64 at_ = at_ := w16 hat
  have wn2 : IntKind.i64.wrap at_ = at_ := i64w hat
  have m1 : at_.tmod 55 = at_ % 55 := Int.tmod_eq_emod_of_nonneg hat.1
  have HA := Aside0.mk (m55 hat.1)
  have wa := w42 (at_ % 55) HA.out
  clear hm hts hgm hg hL hlen hll hless hat hturn hC hc hHB
  generalize (L.map cst).length = n0 at *
  go_enter Tryd.func7, Tryd.ntmps7
  go_wp2_with (go_at_call 9; refine HAW.out.mono ?_; rintro e w1 ⟨rfl, hb⟩; have B1 := Aside0.mk hb; clear hb)
  obtain ⟨l, hf, hcall⟩ := HCA.out w1 B1.out
  have HF := Aside0.mk hf
  have HCALL := Aside0.mk hcall
  clear hf hcall HCA HAW
  refine HCALL.out.mono ?_
  rintro e w2 ⟨A1, c1, A2, c2, rfl, l1, g1, l2, g2, hb⟩
  have B2 := Aside0.mk (B1.out.trans (hb.mono B1.out.size))
  have HC1 := Aside0.mk (And.intro l1 g1)
  have HC2 := Aside0.mk (And.intro l2 g2)
  clear l1 g1 l2 g2 hb HCALL B1
  have hone := HF.out.one
  have hl0 : 0 < l.length := by obtain ⟨b, r, e, _⟩ := hone; rw [e]; simp
  have h55 : (rd_T67 (PureR.bs43 l) 0).f1.length = 55 := by
    obtain ⟨b, r, e, h⟩ := hone
    have := PureR.rd43 l 0
    rw [show ((0 : Nat) : Int) = 0 from rfl] at this
    rw [this, e]
    show (cst b.2).length = 55
    rw [cst_length, h]
  have HL0 := Aside0.mk hl0
  obtain ⟨ad, A3, c3, rfl, hx0, hx1, hl3, hi3⟩ := at_T67 HC1.out.2 0 (by decide) (by omega)
  rw [h55] at hx1
  (try rw [show ((0 : Int)).toNat = 0 from rfl] at hx1)
  (try rw [show 0 * 2 = 0 from rfl] at hx1)
  (try rw [Addr.add_zero'] at hx1)
  clear hx0 hl3 hi3 hone h55 hl0
  obtain ⟨nl, hnl⟩ : ∃ nl, nl = l.length := ⟨_, rfl⟩
  have HNL := Aside0.mk hnl
  rw [← hnl] at HC1 HL0
  rw [← hnl]
  clear hnl
  have p0 : (0 < (nl : Int)) = True := eq_true (by have := HL0.out; omega)
  have p0n : (0 < nl) = True := eq_true HL0.out
  obtain ⟨sd, hsd⟩ : ∃ sd, sd = PureR.sideR l := ⟨_, rfl⟩
  have HSD := Aside0.mk hsd
  rw [← hsd] at HC2
  rw [← hsd]
  clear hsd
  obtain ⟨ns, hns⟩ : ∃ ns, ns = sd.length := ⟨_, rfl⟩
  have HNS := Aside0.mk hns
  rw [← hns] at HC2
  rw [← hns]
  clear hns
  go_wp2_with fail
  obtain ⟨a, ha⟩ : ∃ a : Nat, (a : Int) = at_ % 55 := ⟨(at_ % 55).toNat, by have := HA.out; omega⟩
  have HA5 := Aside0.mk (show a < 55 by have := HA.out; omega)
  rw [← ha]
  clear ha m1 wa HA wn1 wn2 hx1
  have hfl := side_len HF.out
  rw [← HSD.out, ← HNS.out] at hfl
  have HNS2 := Aside0.mk hfl
  clear hfl
  refine (join1_calls _ 1 (cst sd) _ (by have := C_one w2 A2 c2 (cst sd) (by rw [cst_length, ← HNS.out]; exact HC2.out.2) (by rw [cst_length, ← HNS.out]; exact HC2.out.1); rwa [cst_length, ← HNS.out] at this) (by decide) (by rw [cst_length, ← HNS.out]; have := HNS2.out; omega)).mono ?_
  rintro e w3 ⟨v3, rfl, hR, hb⟩
  have B3 := Aside0.mk (below_step (below_alloc B2.out _) hb)
  have HR3 := Aside0.mk (Kd.R_lower hR (below_alloc (Below.refl w2.heap.size w2) _).size)
  have B23 := Aside0.mk (below_step (below_alloc (Below.refl w2.heap.size w2) _) hb)
  clear hR hb HC2
  obtain ⟨gS, cS, hvS, hgS, hlS⟩ := (Kd.own_of_R HR3.out).form (by rw [cst_length, ← HNS.out]; have := HNS2.out; omega)
  rw [cst_length, ← HNS.out] at hvS
  subst hvS
  have HGS := Aside0.mk (And.intro hgS hlS)
  clear hgS hlS
  obtain ⟨d0, hd0⟩ : ∃ d0 : Nat, d0 = sd.getD (42 + a) 0 := ⟨_, rfl⟩
  have HD0 := Aside0.mk hd0
  have hcell : w3.cell? ⟨gS, 42 + a, none⟩ = some (.int .u8 (d0 : Int)) := by
    have h1 := (Kd.R_reads' HR3.out).2.2
    obtain ⟨ad', ea, hx⟩ := Kd.at_int h1 ((42 + a : Nat) : Int) (by omega) (by rw [cst_length, ← HNS.out]; have := HNS2.out; have := HA5.out; omega)
    cases ea
    rw [add_at, Nat.zero_add, Int.toNat_natCast, cst_rd, ← hd0] at hx
    exact hx
  have hfz : w3.frozen? ⟨gS, 42 + a, none⟩ = false := by
    obtain ⟨cells, hh⟩ := Kd.R_typed HR3.out gS rfl
    simp [World.frozen?, hh]
  have hd256 : d0 < 256 := by rw [hd0, HSD.out]; exact getD_small (side_small HF.out) _
  obtain ⟨x0, hx0⟩ : ∃ x0 : Nat, x0 = d0 ^^^ turn := ⟨_, rfl⟩
  have HX0 := Aside0.mk hx0
  have hxor : Go.bits .xor .u8 (d0 : Int) (turn : Int) = (x0 : Int) := by rw [xor_u8 d0 turn hd256 HT.out, hx0]
  have k42 : (42 + (a : Int) < (ns : Int)) = True := eq_true (by have := HNS2.out; have := HA5.out; omega)
  have HR4 := Aside0.mk (Kd.R_putg HR3.out ((42 + a : Nat) : Int) (x0 : Int)).1
  rw [Int.toNat_natCast, cst_set] at HR4
  have B4 := Aside0.mk (B3.out.setCell (p := ⟨gS, 42 + a, none⟩) (Nat.le_trans B2.out.size HGS.out.1) (.int .u8 (x0 : Int)))
  have HC14 := Aside0.mk (And.intro HC1.out.1 (Kd.C_below HC1.out.2 (B23.out.setCell (p := ⟨gS, 42 + a, none⟩) HGS.out.1 (.int .u8 (x0 : Int)))))
  clear HC1 B23
  clear hd0 hd256 hx0
  go_wp2_with fail
  generalize w3.setCell ⟨gS, 42 + a, none⟩ (.int .u8 (x0 : Int)) = w4 at *
  clear hcell hfz hxor k42 HR3 B3
  obtain ⟨SL, hSL⟩ : ∃ SL, SL = sd.set (42 + a) x0 := ⟨_, rfl⟩
  have HSL := Aside0.mk hSL
  have HSLn := Aside0.mk (show SL.length = ns by rw [hSL, List.length_set, HNS.out])
  rw [← hSL] at HR4
  clear hSL
  have HSM := Aside0.mk (show small SL from by
    rw [HSL.out]
    intro x hx
    rcases List.mem_or_eq_of_mem_set hx with hx | rfl
    · rw [HSD.out] at hx; exact side_small HF.out x hx
    · rw [HX0.out]; exact Nat.xor_lt_two_pow (n := 8) (by rw [HD0.out, HSD.out]; exact getD_small (side_small HF.out) _) HT.out)
  have hRC := Kd.R_reads' HR4.out
  have hop := open_calls W.heap.size w4 B4.out.size (some ⟨gS, 0, none⟩) cS (cst SL) hRC.2.2 (by rw [← hRC.1]; exact hRC.2.1) (by rw [cst_length, HSLn.out]; have := HNS2.out; omega) (by rw [cst_length, HSLn.out]; have := HNS2.out; omega)
  rw [cst_length, HSLn.out] at hop
  have HOP := Aside0.mk hop
  clear hop hRC
  refine HOP.out.mono ?_
  rintro e w5 ⟨p, rfl, hi, hb, g1, g2, g3, gv⟩
  have B5 := Aside0.mk hb
  have H5 := Aside0.mk hi
  have LO := Aside0.mk hi.low
  have HP := Aside0.mk (show ∀ i, Foot p i → w4.heap.size ≤ i from fun i e => by
    rcases e with e | e | e | e
    · rw [e]; exact g1
    · rw [e]; exact g2
    · rw [e]; exact g3
    · exact gv i e)
  clear hi hb g1 g2 g3 gv HOP HR4
  have HSC := Aside0.mk (show cst SL ≠ [] ∧ (cst SL).length ≤ 65536 ∧ ∀ j, U8 (rd (cst SL) j) from ⟨fun e => by have h1 := congrArg List.length e; rw [cst_length, HSLn.out, List.length_nil] at h1; have := HNS2.out; omega, by rw [cst_length, HSLn.out]; have := HNS2.out; omega, small_u8 HSM.out⟩)
  go_wp2_with fail
  obtain ⟨zz, hzz⟩ : ∃ zz, zz = w4.heap.size := ⟨_, rfl⟩
  have HZZ := Aside0.mk hzz
  rw [← hzz] at B5 HP
  obtain ⟨z5, hz5⟩ : ∃ z5, z5 = w5.heap.size := ⟨_, rfl⟩
  have HZ5 := Aside0.mk hz5
  rw [← hz5] at LO
  have HZL := Aside0.mk (show z5 ≤ w5.heap.size from by rw [hz5]; exact Nat.le_refl _)
  clear hzz hz5
  obtain ⟨NI, hNI⟩ : ∃ NI : Int, NI = (nl : Int) := ⟨_, rfl⟩
  have HNI := Aside0.mk hNI
  rw [← hNI]
  clear hNI
  go_loopg [51] nl (fun kq v51 w' => ∃ (i : Nat), v51 = .int .i64 (i : Int) ∧ Aside0 ((i : Int) + kq = NI) ∧ Aside0 (RdSt W.heap.size w' p l (cst SL) i) ∧ Aside0 (Below zz w4 w') ∧ Aside0 (z5 ≤ w'.heap.size))
  case atStart => exact ⟨0, rfl, ⟨by have := HNI.out; omega⟩, ⟨.inl ⟨rfl, H5.out⟩⟩, B5, HZL⟩
  case round =>
    clear H5 B5 HZL
    obtain ⟨i, rfl, HI, HST, HB, HZW⟩ := hrel
    by_cases hlt : i < nl
    · have d1 : decide ((i : Int) < NI) = true := decide_eq_true (by have := HNI.out; omega)
      have e1 : wrap64 ((i : Int) + 1) = ((i + 1 : Nat) : Int) := w1n i (by have := HNL.out; have := HF.out.le; omega)
      have HLT := Aside0.mk hlt
      obtain ⟨A6, c6, hx0w, hx1w, hl6, hr6⟩ := blk_at HC14.out.2 i hlt
      have HR6 := Aside0.mk (show (l.getD i (0, [])).2.length ≤ c6 ∧ ∀ W1, Below zz w4 W1 → (Kd.int .u8).C W1 A6 (l.getD i (0, [])).2.length (cst (l.getD i (0, [])).2) from ⟨hl6, fun W1 hb => Kd.C_below hr6 (by rw [← HZZ.out]; exact hb)⟩)
      have hx0 := Kd.cell_heap (w1 := wr) (fun k hk => HB.out.block k (by rw [HZZ.out]; exact hk)) hx0w
      have hx1 := Kd.cell_heap (w1 := wr) (fun k hk => HB.out.block k (by rw [HZZ.out]; exact hk)) hx1w
      have q0 : ((i : Int) < (nl : Int)) = True := eq_true (by omega)
      have q0n : (i < nl) = True := eq_true hlt
      clear hlt hl6 hr6 hx0w hx1w
      obtain ⟨b1, hb1⟩ : ∃ b1, b1 = (l.getD i (0, [])).1 := ⟨_, rfl⟩
      obtain ⟨b2, hb2⟩ : ∃ b2, b2 = (l.getD i (0, [])).2 := ⟨_, rfl⟩
      have HBB := Aside0.mk (And.intro hb1 hb2)
      rw [← hb1] at hx0
      rw [← hb2] at hx1 HR6
      clear hb1 hb2
      obtain ⟨n2, hn2⟩ : ∃ n2, n2 = b2.length := ⟨_, rfl⟩
      have HN2 := Aside0.mk (show n2 = b2.length ∧ n2 ≤ 55 from ⟨hn2, by rw [hn2, HBB.out.2]; exact HF.out.ln i⟩)
      rw [← hn2] at hx1 HR6
      have e3 : wrap64 (1 + (n2 : Int)) = ((1 + n2 : Nat) : Int) := w1a n2 HN2.out.2
      clear hn2
      go_wp2_with fail
      obtain ⟨wb, hwb⟩ : ∃ wb, wb = wr.alloc (.cells #[.int .u8 (b1 : Int), .slice A6 n2 c6] 67 (0, 0)) := ⟨_, rfl⟩
      have HBOX := Aside0.mk (show Drive.At wb wr.heap.size 67 #[.int .u8 (b1 : Int), .slice A6 n2 c6] from by rw [hwb]; exact heap_alloc_new wr _)
      have hbl : Below wr.heap.size wr wb := by rw [hwb]; exact below_alloc (Below.refl _ _) _
      have HBW := Aside0.mk (show Below zz w4 wb from below_to HB.out (by rw [HZZ.out]; exact HB.out.size) hbl)
      have HSZ := Aside0.mk (show z5 ≤ wr.heap.size ∧ wr.heap.size < wb.heap.size from ⟨HZW.out, HBOX.out.lt⟩)
      have HSTb := Aside0.mk (HST.out.keptB LO.out (hbl.mono HZW.out))
      rw [← hwb]
      clear hwb hbl hx0 hx1 HST HB HZW
      obtain ⟨gb, hgb⟩ : ∃ gb, gb = wr.heap.size := ⟨_, rfl⟩
      rw [← hgb] at HBOX HSZ
      rw [← hgb]
      clear hgb
      have hBW4 : Below W.heap.size W wb := B4.out.trans (HBW.out.mono (by rw [HZZ.out]; exact B4.out.size))
      obtain ⟨i0, hput⟩ := HSTb.out.put HSC.out.1 HSC.out.2.1 HSC.out.2.2 (HMS.out wb hBW4)
      obtain ⟨q, rest, hd, hql, hqw, hqs, hqz, hq0⟩ := PureR.reads_plain l HF.out a turn HA5.out HT.out i (by rw [← HNL.out]; exact HLT.out)
      rw [← HSD.out, ← HD0.out, ← HX0.out, ← HSL.out] at hd
      have hah := ahead_of hd
      have hrd := read_to W.heap.size wb p (cst SL) (PureR.kpos l i) (PureR.zpos i) (1 + n2) i0 0 hput (LO.out.mono (by have := HSZ.out; omega)) hBW4.size hah.1 (by rw [hah.2.1]; decide) (by unfold PureR.zpos; split <;> decide) (by have := HN2.out; omega)
        (by rw [cst_length]; have := hah.2.2.2; rw [hql, ← HBB.out.2, ← HN2.out.1] at this; omega) (HMS.out wb hBW4) HGT.out.1 (HTS.out wb hBW4) HGT.out.2
      have hqe : (List.drop (PureR.kpos l i + PureR.zpos i + 1) (cst SL)).take (1 + n2 + 2) = cst q := by
        have h1 := hah.2.2.1
        rw [hql, ← HBB.out.2, ← HN2.out.1] at h1
        exact h1
      have hqe2 : (List.drop (PureR.kpos l i + PureR.zpos i + 1) (cst SL)).take (1 + n2) = cst (PureR.wantR l a turn i) := by
        rw [← hqw, ← HBB.out.2, ← HN2.out.1, ← cst_take, ← hqe, List.take_take, Nat.min_eq_left (by omega)]
      rw [hqe, hqe2, hah.2.1, stp_sum q hqs, show ((1 + n2 : Nat) : Int) = 1 + (n2 : Int) by push_cast; rfl] at hrd
      have HOKB := Aside0.mk (show decide (((Crc.gfeed 32768 (bitsL (128 :: q)) : Nat) : Int) = 0) = (decide (0 < i) || decide (turn = 0)) from ok_bool hqz)
      rw [HOKB.out] at hrd
      have HRD := Aside0.mk hrd
      have HQ0 := Aside0.mk (show d0 = (l.getD 0 (0, [])).2.getD a 0 from by rw [HD0.out, HSD.out]; exact hq0)
      clear hrd hput hd hql hqw hqs hqz hq0 hah hqe hqe2 hBW4 HOKB HSTb
      refine HRD.out.mono ?_
      rintro e w6 ⟨⟨A7, c7, rfl, hc7, hr7⟩, ⟨i', s', d, hhd⟩, ht⟩
      have B6 := Aside0.mk (over HBW.out ht HP.out (by rw [HZZ.out]; exact Nat.le_refl _))
      have HBOX6 := Aside0.mk (show Drive.At w6 gb 67 #[.int .u8 (b1 : Int), .slice A6 n2 c6] from (ht.kept gb HSZ.out.2 (LO.out.not HSZ.out.1)).trans HBOX.out)
      have HZ6 := Aside0.mk (show z5 ≤ w6.heap.size from Nat.le_trans HSZ.out.1 (Nat.le_trans (Nat.le_of_lt HSZ.out.2) ht.below.size))
      have HH6 := Aside0.mk (show RdSt W.heap.size w6 p l (cst SL) (i + 1) from .inr ⟨Nat.succ_pos _, i', s', d, by rw [kpos_next l i (by rw [← HNL.out]; exact HLT.out), ← HBB.out.2, ← HN2.out.1]; exact hhd⟩)
      have HP7 := Aside0.mk (And.intro hc7 hr7)
      clear ht hhd hc7 hr7 HRD HBW HBOX
      have k0 : w6.cell? ⟨gb, 0, none⟩ = some (.int .u8 (b1 : Int)) := HBOX6.out.cell 0
      have k1 : (w6.alloc (.cells #[.int .u8 (b1 : Int)] 5 (0, 0))).cell? ⟨gb, 1, none⟩ = some (.slice A6 n2 c6) := (HBOX6.out.below (below_alloc (Below.refl _ _) _)).cell 1
      go_wp2_with fail
      have hj := join2_calls (some ⟨(w6.alloc (.cells #[.int .u8 (b1 : Int)] 5 (0, 0))).heap.size, 0, none⟩) 2 [(b1 : Int)] (cst b2) _ (C_pair (w6.alloc (.cells #[.int .u8 (b1 : Int)] 5 (0, 0))) (some ⟨w6.heap.size, 0, none⟩) 1 1 [(b1 : Int)] A6 c6 n2 (cst b2) rfl (by rw [cst_length, HN2.out.1]) (C_byte w6 (b1 : Int)) (Nat.le_refl _) (HR6.out.2 _ (below_to B6.out (by have := B6.out.size; rw [HZZ.out]; exact this) (below_alloc (Below.refl _ _) _))) HR6.out.1) (Nat.le_refl _) (by rw [List.length_append, cst_length, ← HN2.out.1]; have := HN2.out.2; simp; omega)
      rw [show (w6.alloc (.cells #[.int .u8 (b1 : Int)] 5 (0, 0))).heap.size = w6.heap.size + 1 by simp] at hj
      have HJ := Aside0.mk hj
      clear hj k0 k1
      refine HJ.out.mono ?_
      rintro e w8 ⟨v8, rfl, hR, hb⟩
      have B68 := Aside0.mk (below_step (below_alloc (below_alloc (Below.refl w6.heap.size w6) _) _) hb)
      have HR8 := Aside0.mk (show (Kd.int .u8).R 5 w8 w6.heap.size (fun _ => True) v8 (cst (b1 :: b2)) from Kd.R_lower hR (by simp; omega))
      have HZ8 := Aside0.mk (show z5 ≤ w6.heap.size ∧ w6.heap.size ≤ w8.heap.size from ⟨HZ6.out, B68.out.size⟩)
      clear hR hb HJ HBOX6
      obtain ⟨gW, cW, hvW, hgW, hlW⟩ := (Kd.own_of_R HR8.out).form (by rw [cst_length]; simp)
      rw [cst_length, List.length_cons, ← HN2.out.1] at hvW
      subst hvW
      have HGW := Aside0.mk hgW
      clear hgW hlW
      by_cases h0 : i = 0
      · subst h0
        have hn55 : n2 = 55 := by
          obtain ⟨b, r, e, h⟩ := HF.out.one
          rw [HN2.out.1, HBB.out.2, e]; exact h
        have hdb : d0 = b2.getD a 0 := by rw [HBB.out.2]; exact HQ0.out
        have hcell : w8.cell? ⟨gW, a + 1, none⟩ = some (.int .u8 (d0 : Int)) := by
          have h1 := (Kd.R_reads' HR8.out).2.2
          obtain ⟨ad', ea, hx⟩ := Kd.at_int h1 ((a + 1 : Nat) : Int) (by omega) (by rw [cst_length, List.length_cons, ← HN2.out.1]; have := HA5.out; omega)
          cases ea
          rw [add_at, Nat.zero_add, Int.toNat_natCast, cst_rd, List.getD_cons_succ, ← hdb] at hx
          exact hx
        have hfz : w8.frozen? ⟨gW, a + 1, none⟩ = false := by
          obtain ⟨cells, hh⟩ := Kd.R_typed HR8.out gW rfl
          simp [World.frozen?, hh]
        have hd256 : d0 < 256 := by rw [HD0.out, HSD.out]; exact getD_small (side_small HF.out) _
        have hxor : Go.bits .xor .u8 (d0 : Int) (turn : Int) = (x0 : Int) := by rw [xor_u8 d0 turn hd256 HT.out, HX0.out]
        have q5 : (a < n2) = True := eq_true (by have := HA5.out; omega)
        have q6 : ((a : Int) + 1 < (n2 : Int) + 1) = True := eq_true (by have := HA5.out; omega)
        have HR9 := Aside0.mk (Kd.R_putg HR8.out ((a + 1 : Nat) : Int) (x0 : Int)).1
        rw [Int.toNat_natCast, cst_set] at HR9
        have B69 := Aside0.mk (B68.out.setCell (p := ⟨gW, a + 1, none⟩) HGW.out (.int .u8 (x0 : Int)))
        have HWQ := Aside0.mk (show PureR.wantR l a turn 0 = (b1 :: b2).set (a + 1) x0 from by unfold PureR.wantR; rw [if_pos rfl, ← HBB.out.1, ← HBB.out.2, ← hdb, ← HX0.out])
        have e4 := w4242 a HA5.out
        have e5 := w1n a (by have := HA5.out; omega)
        obtain ⟨tb, htb⟩ : ∃ tb, tb = decide (turn = 0) := ⟨_, rfl⟩
        have t3 : ((turn : Int) == 0) = tb := by rw [htb]; by_cases h : turn = 0 <;> simp [h]
        rw [show (decide (0 < 0) || decide (turn = 0)) = tb from by rw [htb]; rfl]
        clear htb hd256 hn55 hdb
        go_wp2_with fail
        generalize hw9 : w8.setCell ⟨gW, a + 1, none⟩ (.int .u8 (x0 : Int)) = w9 at *
        clear hcell hfz hxor q5 q6 e4 e5 hw9
        have hsm := same_calls A7 c7 (1 + n2) (cst (PureR.wantR l a turn 0)) (some ⟨gW, 0, none⟩) cW (n2 + 1) (cst (PureR.wantR l a turn 0)) w9 (by rw [HWQ.out, cst_length, List.length_set, List.length_cons, ← HN2.out.1]; omega) (by rw [HWQ.out, cst_length, List.length_set, List.length_cons, ← HN2.out.1])
          (by have := Kd.C_below HP7.out.2 B69.out; rwa [show 1 + n2 = (cst (PureR.wantR l a turn 0)).length by rw [HWQ.out, cst_length, List.length_set, List.length_cons, ← HN2.out.1]; omega] at this)
          (by rw [HWQ.out, cst_length, List.length_set, List.length_cons, ← HN2.out.1]; have := HP7.out.1; omega)
          (by rw [HWQ.out]; exact (Kd.R_reads' HR9.out).2.2) (by rw [HWQ.out, cst_length]; have := (Kd.R_reads' HR9.out); rw [cst_length] at this; omega)
          (by rw [HWQ.out, cst_length, List.length_set, List.length_cons, ← HN2.out.1]; have := HN2.out.2; omega)
        rw [decide_eq_true rfl] at hsm
        have HSM9 := Aside0.mk hsm
        clear hsm
        refine HSM9.out.mono ?_
        rintro e w10 ⟨rfl, n10, rfl⟩
        have B610 := Aside0.mk (pw_below_drewN B69.out n10)
        have HH := Aside0.mk (HH6.out.keptB LO.out (B610.out.mono HZ6.out))
        have BF := Aside0.mk (below_to B6.out (by have := B6.out.size; rw [HZZ.out]; exact this) B610.out)
        have ZF := Aside0.mk (show z5 ≤ (w9.drewN n10).heap.size from Nat.le_trans HZ6.out B610.out.size)
        clear HSM9 HR9 HR8 HP7 HH6 B6 B68
        generalize w9.drewN n10 = w11 at *
        have e1 := w1n 0 (by decide)
        cases tb <;>
        · go_wp2
          go_roundg (gk - 1)
          case measure => have := HI.out; have := HLT.out; have := HNI.out; omega
          case rel => exact ⟨0 + 1, by first | rfl | (congr 1), ⟨by have := HI.out; have := HLT.out; have := HNI.out; omega⟩, HH, BF, ZF⟩
      · have t0 : ((i : Int) == 0) = false := by rw [beq_eq_false_iff_ne]; omega
        have t1 : decide (0 < (i : Int)) = true := decide_eq_true (by omega)
        have t2 : decide (0 < i) = true := decide_eq_true (by omega)
        rw [t2, Bool.true_or]
        have HWQ := Aside0.mk (show PureR.wantR l a turn i = b1 :: b2 from by unfold PureR.wantR; rw [if_neg h0, ← HBB.out.1, ← HBB.out.2])
        go_wp2_with fail
        have hsm := same_calls A7 c7 (1 + n2) (cst (PureR.wantR l a turn i)) (some ⟨gW, 0, none⟩) cW (n2 + 1) (cst (PureR.wantR l a turn i)) w8 (by rw [HWQ.out, cst_length, List.length_cons, ← HN2.out.1]; omega) (by rw [HWQ.out, cst_length, List.length_cons, ← HN2.out.1])
          (by have := Kd.C_below HP7.out.2 B68.out; rwa [show 1 + n2 = (cst (PureR.wantR l a turn i)).length by rw [HWQ.out, cst_length, List.length_cons, ← HN2.out.1]; omega] at this)
          (by rw [HWQ.out, cst_length, List.length_cons, ← HN2.out.1]; have := HP7.out.1; omega)
          (by rw [HWQ.out]; exact (Kd.R_reads' HR8.out).2.2) (by rw [HWQ.out, cst_length]; have := (Kd.R_reads' HR8.out); rw [cst_length] at this; omega)
          (by rw [HWQ.out, cst_length, List.length_cons, ← HN2.out.1]; have := HN2.out.2; omega)
        rw [decide_eq_true rfl] at hsm
        have HSM9 := Aside0.mk hsm
        clear hsm
        refine HSM9.out.mono ?_
        rintro e w10 ⟨rfl, n10, rfl⟩
        have B610 := Aside0.mk (pw_below_drewN B68.out n10)
        have HH := Aside0.mk (HH6.out.keptB LO.out (B610.out.mono HZ6.out))
        have BF := Aside0.mk (below_to B6.out (by have := B6.out.size; rw [HZZ.out]; exact this) B610.out)
        have ZF := Aside0.mk (show z5 ≤ (w8.drewN n10).heap.size from Nat.le_trans HZ6.out B610.out.size)
        clear HSM9 HR8 HP7 HH6 B6 B68
        generalize w8.drewN n10 = w11 at *
        go_wp2
        go_roundg (gk - 1)
        case measure => have := HI.out; have := HLT.out; have := HNI.out; omega
        case rel => exact ⟨i + 1, by first | rfl | (congr 1), ⟨by have := HI.out; have := HLT.out; have := HNI.out; push_cast; omega⟩, HH, BF, ZF⟩
    · have d1 : decide ((i : Int) < NI) = false := decide_eq_false (by have := HNI.out; omega)
      clear hlt
      go_wp2
      go_ret
      exact ⟨rfl, B4.out.trans (HB.out.mono (by rw [HZZ.out]; exact B4.out.size))⟩
theorem rows_of (l : List (List Int)) (h : ∀ x ∈ l, x.length ≤ 9223372036854775807 ∧ ∀ n ∈ x, (Lit.int .u8 n).wf = true) : ∃ L : List (List Nat), l = L.map cst ∧ (∀ x ∈ L, small x) ∧ ∀ x ∈ L, x.length ≤ 9223372036854775807 := by
  induction l with
  | nil => exact ⟨[], rfl, (fun x hx => by cases hx), (fun x hx => by cases hx)⟩
  | cons x l ih =>
    obtain ⟨L, hL, h1, h2⟩ := ih (fun y hy => h y (List.mem_cons_of_mem _ hy))
    obtain ⟨hx1, hx2⟩ := h x List.mem_cons_self
    obtain ⟨ns, hns, hs⟩ := cst_of x hx2
    refine ⟨ns :: L, by rw [hL, hns]; rfl, fun y hy => ?_, fun y hy => ?_⟩
    · rcases List.mem_cons.1 hy with rfl | hy
      · exact hs
      · exact h1 y hy
    · rcases List.mem_cons.1 hy with rfl | hy
      · rw [← cst_length, ← hns]; exact hx1
      · exact h2 y hy
theorem reads_walk2 (A : Option Addr) (c : Nat) (l : List (List Int)) (less at_ turn : Int) (W : World) (hm : Wave.MS W) (hts : Wave.TS W) (hgm : 0 < W.heap.size) (hg : 1 < W.heap.size)
    (hC : (Kd.slice 5 (Kd.int .u8)).C W A l.length l) (hc : l.length ≤ c) (hlen : l.length ≤ 9223372036854775807) (hw : ∀ x ∈ l, x.length ≤ 9223372036854775807 ∧ ∀ n ∈ x, (Lit.int .u8 n).wf = true) (u1 : 0 ≤ less ∧ less < 256) (u2 : 0 ≤ at_ ∧ at_ < 65536) (u3 : 0 ≤ turn ∧ turn < 256) :
    Calls Tryd.prog 7 #[.slice A l.length c, .int .u8 less, .int .u16 at_, .int .u8 turn] W fun e W' => e = .returned (.bool true) ∧ Below W.heap.size W W' := by
  obtain ⟨L, rfl, h1, h2⟩ := rows_of l hw
  obtain ⟨n1, rfl⟩ := Int.eq_ofNat_of_zero_le u1.1
  obtain ⟨n3, rfl⟩ := Int.eq_ofNat_of_zero_le u3.1
  exact reads_walk A c L n1 n3 at_ W hm hts hgm hg h1 (by rw [List.length_map] at hlen; exact hlen) h2 (by omega) u2 (by omega) hC hc
end Go.Proofs.YtaiaapjlpbhlbaaDoor.Ada
