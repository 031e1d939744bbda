/-
  AdapterTimes: the timer. By the prover of this repo.
  A BYTE THAT PASSES: read, next, and the adapter's cycle whole. By the prover of this repo.
  A NIL ADAPTER; the drive's handle; a copy. By the prover of this repo.
  A CYCLE of an adapter whose drive runs; till a byte passes. By the prover of this repo.
  AdapterNil: a nil adapter; copies by themselves. By the prover of this repo.
-/
import Derived.Test.YtaiaapjlpbhlbaaDoorAdZa
import Derived.Test.YtaiaapjlpbhlbaaDoorAdStep
import Derived.Test.YtaiaapjlpbhlbaaDoorDrvZ
import Derived.Laws.Rows
import Derived.Laws.Tables
import Derived.Deep.WholeRow
import Derived.Test.YtaiaapjlpbhlbaaDoorPAdapterNilx2
import Derived.Test.YtaiaapjlpbhlbaaDoorU
namespace Go.Proofs.YtaiaapjlpbhlbaaDoor.Ada
open Go.RowKit Go.Proofs.YtaiaapjlpbhlbaaDoorW.PrintWords Go.Proofs.YtaiaapjlpbhlbaaDoorW.PrintLast Go.Proofs.YtaiaapjlpbhlbaaDoorW.PrintMore
set_option linter.unusedVariables false
set_option linter.unusedSimpArgs false
set_option maxRecDepth 20000
theorem clock0 (base : Nat) (W : World) (p : P) (a : A) (u : Wave.V) (h : Is base W p a d0 u) (hc : 0 ≤ a.count ∧ a.count < 65536) (hu : Wave.Okv u) (hts : Wave.TS W) (hgb : 1 < base) :
    Calls Tryd.prog 12 #[.pointer (some ⟨p.g, 0, none⟩)] W fun e W' => e = .returned (.tuple #[]) ∧ Is base W' p (tick a) d0 (Wave.clockV u) ∧ Turn base W W' (Foot p) := by
  have h1 := clock_none base W p a d0 u h hc hu hts hgb ⟨by decide, by decide, by decide, by decide⟩ rfl
  rwa [show (Drv.clk d0).1 = d0 from rfl] at h1
def stA (fr c : Int) (on rep exp : Bool) : A := ⟨fr, c, on, rep, exp, 1, 0, 0, 0, 0, false, false, 32768, 0⟩
theorem open0 : shutA a0 1 = stA 0 0 false false false := rfl
theorem shutD1 : shutD d0 1 = d0 := rfl
theorem shutD0 : shutD d0 0 = d0 := rfl
theorem tim2 (fr c : Int) (on rep exp : Bool) : timA (stA fr c on rep exp) 2 = stA fr fr true false exp := rfl
theorem tim3 (fr c : Int) (on rep exp : Bool) : timA (stA fr c on rep exp) 3 = stA fr fr true true exp := rfl
theorem tim0 (fr c : Int) (on rep exp : Bool) : timA (stA fr c on rep exp) 0 = stA fr c false false false := rfl
theorem tick_off (fr c : Int) (rep exp : Bool) : tick (stA fr c false rep exp) = stA fr c false rep exp := rfl
theorem tick_on {fr c : Int} (h : 0 < c) (rep exp : Bool) : tick (stA fr c true rep exp) = stA fr (c - 1) true rep exp := by
  unfold tick stA
  rw [if_neg (by simp), if_pos h]
theorem tick_end (fr : Int) (rep exp : Bool) : tick (stA fr 0 true rep exp) = stA fr fr rep rep true := rfl
theorem irqS (fr c : Int) (on rep exp : Bool) : irqB (stA fr c on rep exp) = exp := by cases exp <;> rfl
theorem oS (fr c : Int) (on rep exp : Bool) : U8 (stA fr c on rep exp).opn := ⟨by show (0 : Int) ≤ 1; decide, by show (1 : Int) < 256; decide⟩
theorem cS (fr c : Int) (on rep exp : Bool) : U8 (stA fr c on rep exp).ctl := ⟨by show (0 : Int) ≤ 0; decide, by show (0 : Int) < 256; decide⟩
theorem bS (fr c : Int) (on rep exp : Bool) : bit (stA fr c on rep exp).opn 1 = true := rfl
theorem next_mod (x p : Int) (hp : 0 < p) : (x + 1) % p = if x % p + 1 = p then 0 else x % p + 1 := by
  have h := Int.emod_add_mul_ediv x p
  have h0 := Int.emod_nonneg x (show p ≠ 0 by omega)
  have h1 := Int.emod_lt_of_pos x hp
  have e : (x + 1) % p = (x % p + 1) % p := by
    conv => lhs; rw [← h]
    rw [show x % p + p * (x / p) + 1 = x % p + 1 + p * (x / p) by omega, Int.add_mul_emod_self_left]
  rw [e]
  split
  · rename_i hh; rw [hh, Int.emod_self]
  · exact Int.emod_eq_of_lt (by omega) (by omega)
theorem plan (fr per c i : Int) (rep : Bool) (hp : per = fr + 1 ∧ 0 ≤ fr ∧ fr < 65536) (hi : 1 ≤ i) (hc : c = fr - (i - 1) % per) (hr : rep = true ∨ i ≤ per) :
    (0 ≤ c ∧ c < 65536) ∧ (0 < c → (i % per == 0) = false ∧ c - 1 = fr - (i + 1 - 1) % per ∧ (rep = true ∨ i + 1 ≤ per)) ∧ (¬ 0 < c → c = 0 ∧ (i % per == 0) = true ∧ (rep = true ∨ (i == per) = true ∧ per < i + 1) ∧ fr = fr - (i + 1 - 1) % per) := by
  obtain ⟨hp1, hp2, hp3⟩ := hp
  have nm := next_mod (i - 1) per (by omega)
  rw [show (i - 1 + 1 : Int) = i by omega] at nm
  rw [show (i + 1 - 1 : Int) = i by omega]
  have q0 := Int.emod_nonneg (i - 1) (show per ≠ 0 by omega)
  have q1 := Int.emod_lt_of_pos (i - 1) (show 0 < per by omega)
  have q2 : i ≤ per → (i - 1) % per = i - 1 := fun h => Int.emod_eq_of_lt (by omega) (by omega)
  generalize (i - 1) % per = q at *
  refine ⟨by omega, fun h => ?_, fun h => ?_⟩
  · rw [if_neg (by omega)] at nm
    refine ⟨by rw [beq_eq_false_iff_ne, nm]; omega, by rw [nm]; omega, hr.imp id (fun h => by have := q2 h; omega)⟩
  · rw [if_pos (by omega)] at nm
    refine ⟨by omega, by rw [nm]; rfl, hr.imp id (fun h => by have := q2 h; exact ⟨beq_iff_eq.2 (by omega), by omega⟩), by rw [nm]; omega⟩
set_option maxHeartbeats 8000000 in
theorem awake_calls (W : World) (hts : Wave.TS W) (hg : 1 < W.heap.size) :
    Calls Tryd.prog 9 #[] W fun e W' => e = .returned (.bool true) ∧ Below W.heap.size W W' := by
  have HTS := Aside0.mk (fun (W1 : World) (hb : Below W.heap.size W W1) => hts.below hb hg)
  have HG := Aside0.mk hg
  clear hts hg
  go_enter Tryd.func9, Tryd.ntmps9
  go_wp2_with fail
  refine (newA_calls W.heap.size W (Nat.le_refl _)).mono ?_
  rintro e w1 ⟨p, rfl, hi, hb, _, _, _, _⟩
  have H1 := Aside0.mk hi; have B1 := Aside0.mk hb; clear hi hb
  go_wp2_with fail
  refine (put_open W.heap.size w1 p a0 d0 Wave.v0 H1.out 1 ⟨by decide, by decide⟩).mono ?_
  rintro e w2 ⟨rfl, hi, ht⟩
  rw [open0, shutD1] at hi
  have H2 := Aside0.mk hi; have B2 := Aside0.mk (B1.out.trans ht.below); clear hi ht
  go_wp2_with fail
  refine (put_low W.heap.size w2 p _ d0 Wave.v0 H2.out 5 ⟨by decide, by decide⟩ rfl).mono ?_
  rintro e w3 ⟨rfl, hi, ht⟩
  have H3 := Aside0.mk (show Is W.heap.size w3 p (stA 5 0 false false false) d0 Wave.v0 from hi); have B3 := Aside0.mk (B2.out.trans ht.below); clear hi ht
  go_wp2_with fail
  refine (put_timer W.heap.size w3 p _ d0 Wave.v0 H3.out ⟨by decide, by decide⟩ (by decide) 2 ⟨by decide, by decide⟩).mono ?_
  rintro e w4 ⟨rfl, hi, ht⟩
  rw [tim2] at hi
  have H4 := Aside0.mk hi; have B4 := Aside0.mk (B3.out.trans ht.below); clear hi ht
  go_wp2_with fail
  go_loopg [10] 5 (fun kq v10 w' => ∃ (i : Int) (u : Wave.V), v10 = .int .i64 i ∧ Aside0 (Is W.heap.size w' p (stA 5 (5 - i) true false false) d0 u ∧ Wave.Okv u) ∧ Aside0 (i + kq = 5 ∧ 0 ≤ i) ∧ Aside0 (Below W.heap.size W w'))
  case atStart => exact ⟨0, Wave.v0, rfl, ⟨H4.out, Wave.okv0⟩, ⟨by decide, by decide⟩, B4⟩
  case round =>
    clear H1 H2 H3 H4 B1 B2 B3 B4
    obtain ⟨i, u, rfl, HR, HI, HB⟩ := hrel
    by_cases hlt : i < 5
    · have d1 : decide (i < 5) = true := decide_eq_true hlt
      have e1 : wrap64 (i + 1) = i + 1 := Wave.wr64 (by have := HI.out; omega) (by omega)
      have HC := Aside0.mk (clock0 W.heap.size wr p _ u HR.out.1 ⟨by show 0 ≤ 5 - i; omega, by show 5 - i < 65536; have := HI.out; omega⟩ HR.out.2 (HTS.out _ HB.out) HG.out)
      have HE := Aside0.mk (tick_on (fr := 5) (c := 5 - i) (by omega) false false)
      have HL := Aside0.mk hlt
      clear hlt
      go_wp2_with fail
      refine HC.out.mono ?_
      rintro e w5 ⟨rfl, hi, ht⟩
      rw [HE.out, show (5 - i - 1 : Int) = 5 - (i + 1) by omega] at hi
      have H5 := Aside0.mk hi; have B5 := Aside0.mk (HB.out.trans ht.below); clear hi ht
      go_wp2
      go_roundg (gk - 1)
      case measure => have := HI.out; have := HL.out; omega
      case rel => exact ⟨i + 1, _, by first | rfl | (congr 1), ⟨H5.out, Wave.clockV_ok HR.out.2⟩, ⟨by have := HI.out; have := HL.out; omega, by have := HI.out; omega⟩, B5⟩
    · have d1 : decide (i < 5) = false := decide_eq_false hlt
      have hi5 : i = 5 := by have := HI.out; omega
      subst hi5
      clear hlt d1
      go_wp2_with fail
      refine (irq_calls W.heap.size wr p _ d0 u HR.out.1 ⟨by decide, by decide⟩).mono ?_
      rintro e w5 ⟨rfl, rfl⟩
      rw [irqS]
      go_wp2_with fail
      refine (clock0 W.heap.size wr p _ u HR.out.1 ⟨by decide, by decide⟩ HR.out.2 (HTS.out _ HB.out) HG.out).mono ?_
      rintro e w6 ⟨rfl, hi, ht⟩
      rw [show tick (stA 5 (5 - 5) true false false) = stA 5 5 false false true from rfl] at hi
      have H6 := Aside0.mk hi; have B6 := Aside0.mk (HB.out.trans ht.below); clear hi ht
      go_wp2_with fail
      refine (irq_calls W.heap.size w6 p _ d0 _ H6.out ⟨by decide, by decide⟩).mono ?_
      rintro e w7 ⟨rfl, rfl⟩
      rw [irqS]
      go_wp2
      go_ret
      exact ⟨rfl, B6.out⟩
set_option maxHeartbeats 8000000 in
theorem times_walk (lo hi : Int) (rep : Bool) (n e : Int) (W : World) (hm : Wave.MS W) (hts : Wave.TS W) (hgm : 0 < W.heap.size) (hg : 1 < W.heap.size) (hlo : U8 lo) (hhi : U8 hi) (hn : 0 ≤ n ∧ n < 65536) (he : U8 e) :
    Calls Tryd.prog 3 #[.int .u8 lo, .int .u8 hi, .bool rep, .int .u16 n, .int .u8 e] W fun e W' => e = .returned (.bool true) ∧ Below W.heap.size W W' := by
  have HTS := Aside0.mk (fun (W1 : World) (hb : Below W.heap.size W W1) => hts.below hb hg)
  have HG := Aside0.mk hg
  have HAW := Aside0.mk (awake_calls W hts hg)
  obtain ⟨lo0, lo1⟩ := hlo
  obtain ⟨hi0, hi1⟩ := hhi
  have m1 : hi.tmod 4 = hi % 4 := Int.tmod_eq_emod_of_nonneg hi0
  have m2 : n.tmod 5000 = n % 5000 := Int.tmod_eq_emod_of_nonneg hn.1
  have m3 : e.tmod 3 = e % 3 := Int.tmod_eq_emod_of_nonneg he.1
  have h40 : 0 ≤ hi % 4 := by omega
  have h41 : hi % 4 < 4 := by omega
  have n50 : 0 ≤ n % 5000 := by omega
  have n51 : n % 5000 < 5000 := by omega
  have e30 : 0 ≤ e % 3 := by omega
  have e31 : e % 3 < 3 := by omega
  have wn1 : wrap64 n = n := Wave.wr64 (by omega) (by omega)
  have wn2 : IntKind.i64.wrap n = n := by rw [IntKind.wrap_i64]; omega
  have wl1 : wrap64 lo = lo := Wave.wr64 (by omega) (by omega)
  have wl2 : IntKind.i64.wrap lo = lo := by rw [IntKind.wrap_i64]; omega
  generalize hi % 4 = h4 at *
  generalize n % 5000 = n5 at *
  generalize e % 3 = e3 at *
  have wh1 : wrap64 h4 = h4 := Wave.wr64 (by omega) (by omega)
  have wh2 : IntKind.i64.wrap h4 = h4 := by rw [IntKind.wrap_i64]; omega
  have wp1 : wrap64 (1 + lo) = 1 + lo := Wave.wr64 (by omega) (by omega)
  have wp2 : wrap64 (256 * h4) = 256 * h4 := Wave.wr64 (by omega) (by omega)
  have wp3 : wrap64 (1 + lo + 256 * h4) = 1 + lo + 256 * h4 := Wave.wr64 (by omega) (by omega)
  have wn5 : wrap64 (1 + n5) = 1 + n5 := Wave.wr64 (by omega) (by omega)
  have U4 := Aside0.mk (show U8 h4 from ⟨by omega, by omega⟩)
  have UL := Aside0.mk (show U8 lo from ⟨lo0, lo1⟩)
  have N5 := Aside0.mk (And.intro n50 n51)
  have E3 := Aside0.mk (And.intro e30 e31)
  clear hts hg hm hgm hn he lo0 lo1 hi0 hi1 h40 h41 n50 n51 e30 e31
  go_enter Tryd.func3, Tryd.ntmps3
  go_wp2_with (go_at_call 9; refine HAW.out.mono ?_; rintro e w1 ⟨rfl, hb⟩; have B1 := Aside0.mk hb; clear hb)
  refine (newA_calls W.heap.size w1 B1.out.size).mono ?_
  rintro e w2 ⟨p, rfl, hi, hb, _, _, _, _⟩
  have H2 := Aside0.mk hi; have B2 := Aside0.mk (B1.out.trans (hb.mono B1.out.size)); clear hi hb
  go_wp2_with fail
  refine (put_low W.heap.size w2 p _ d0 Wave.v0 H2.out lo UL.out rfl).mono ?_
  rintro e w3 ⟨rfl, hi, ht⟩
  have H3 := Aside0.mk hi; have B3 := Aside0.mk (B2.out.trans ht.below); clear hi ht
  go_wp2_with fail
  refine (put_high W.heap.size w3 p _ d0 Wave.v0 H3.out h4 U4.out UL.out).mono ?_
  rintro e w4 ⟨rfl, hi, ht⟩
  have H4 := Aside0.mk hi; have B4 := Aside0.mk (B3.out.trans ht.below); clear hi ht
  go_wp2_with fail
  refine (put_open W.heap.size w4 p _ d0 Wave.v0 H4.out 1 ⟨by decide, by decide⟩).mono ?_
  rintro e w5 ⟨rfl, hi, ht⟩
  have H5 := Aside0.mk (show Is W.heap.size w5 p (stA (lo + h4 * 256) 0 false false false) d0 Wave.v0 from hi); have B5 := Aside0.mk (B4.out.trans ht.below); clear hi ht
  have HRP := Aside0.mk (fun (b : Int) (hb : U8 b) => put_timer W.heap.size w5 p _ d0 Wave.v0 H5.out (oS _ _ _ _ _) (bS _ _ _ _ _) b hb)
  go_upto_if 33 with fail
  go_cut [12] (fun v12 wc => ∃ b2 : Int, v12 = .int .u8 b2 ∧ Aside0 (b2 = if rep = true then 3 else 2) ∧ wc = w5)
  case first =>
    cases rep
    · go_wp2
      go_meet
      case rel => exact ⟨_, rfl, ⟨rfl⟩, rfl⟩
    · go_wp2
      go_meet
      case rel => exact ⟨_, rfl, ⟨rfl⟩, rfl⟩
  case rest =>
    obtain ⟨b2, rfl, HB2, hw5⟩ := hcut
    subst hw5
    clear B1 B2 B3 B4 H2 H3 H4
    have hb3 : U8 b2 := by rw [HB2.out]; split <;> exact ⟨by decide, by decide⟩
    have HP := Aside0.mk (HRP.out _ hb3)
    have HE := Aside0.mk (show timA (stA (lo + h4 * 256) 0 false false false) b2 = stA (lo + h4 * 256) (lo + h4 * 256) true rep false from by rw [HB2.out]; cases rep <;> rfl)
    rw [HE.out] at HP
    clear HRP hb3
    have U4' := U4.out
    have UL' := UL.out
    obtain ⟨x0, x1⟩ := U4'
    obtain ⟨y0, y1⟩ := UL'
    have HPER := Aside0.mk (show 1 + lo + 256 * h4 = lo + h4 * 256 + 1 ∧ 0 ≤ lo + h4 * 256 ∧ lo + h4 * 256 < 65536 from ⟨by omega, by omega, by omega⟩)
    clear x0 x1 y0 y1
    go_wp2_with fail
    refine HP.out.mono ?_
    rintro e w6 ⟨rfl, hi, ht⟩
    have H6 := Aside0.mk hi; have B6 := Aside0.mk (B5.out.trans ht.below); clear hi ht
    go_wp2_with fail
    clear H5 B5 HE HP
    generalize 1 + lo + 256 * h4 = per at *
    generalize lo + h4 * 256 = fr at *
    rw [wp3, wp1, wp2]
    go_loopg [14] (n5 + 1).toNat (fun kq v14 w' => ∃ (i : Int) (on : Bool) (c : Int) (u : Wave.V), v14 = .int .i64 i ∧ Aside0 (Is W.heap.size w' p (stA fr c on rep false) d0 u ∧ Wave.Okv u) ∧ Aside0 (i + kq = n5 + 2 ∧ 1 ≤ i) ∧ Aside0 (on = true ∧ c = fr - (i - 1) % per ∧ (rep = true ∨ i ≤ per) ∨ on = false ∧ rep = false ∧ per < i ∧ 0 ≤ c ∧ c < 65536) ∧ Aside0 (Below W.heap.size W w'))
    case atStart => exact ⟨1, true, fr, Wave.v0, rfl, ⟨H6.out, Wave.okv0⟩, ⟨by have := N5.out; omega, by decide⟩, ⟨.inl ⟨rfl, by show fr = fr - 0 % per; rw [Int.zero_emod]; omega, .inr (by have := HPER.out; omega)⟩⟩, B6⟩
    case round =>
      clear H6 B6
      obtain ⟨i, on, c, u, rfl, HR, HI, HJ, HB⟩ := hrel
      by_cases hlt : i ≤ 1 + n5
      · have d1 : decide (i ≤ 1 + n5) = true := decide_eq_true hlt
        have e1 : wrap64 (i + 1) = i + 1 := Wave.wr64 (by have := HI.out.2; omega) (by have := N5.out; omega)
        have MP := Aside0.mk (show i.tmod per = i % per from Int.tmod_eq_emod_of_nonneg (by have := HI.out.2; omega))
        have zp : (per == 0) = false := by have := HPER.out; rw [beq_eq_false_iff_ne]; omega
        have zq := eq_false (show ¬ per = 0 by have := HPER.out; omega)
        have HL := Aside0.mk hlt
        have OK := Aside0.mk (Wave.clockV_ok HR.out.2)
        clear hlt
        rcases HJ.out with ⟨rfl, hc, hr⟩ | ⟨rfl, rfl, hpi, h0, h1⟩
        · have PL := Aside0.mk (plan fr per c i rep HPER.out HI.out.2 hc hr)
          have HC := Aside0.mk (clock0 W.heap.size wr p _ u HR.out.1 PL.out.1 HR.out.2 (HTS.out _ HB.out) HG.out)
          clear hc hr
          by_cases hc0 : 0 < c
          · have d2 : (i % per == 0) = false := (PL.out.2.1 hc0).1
            have HT := Aside0.mk (tick_on (fr := fr) hc0 rep false)
            have HQ := Aside0.mk (PL.out.2.1 hc0).2
            have mp := MP.out
            clear hc0 MP
            go_wp2_with fail
            refine HC.out.mono ?_
            rintro e w7 ⟨rfl, hi, ht⟩
            rw [HT.out] at hi
            have H7 := Aside0.mk hi; have B7 := Aside0.mk (HB.out.trans ht.below); clear hi ht
            go_wp2_with fail
            refine (irq_calls W.heap.size w7 p _ d0 _ H7.out (cS _ _ _ _ _)).mono ?_
            rintro e w8 ⟨rfl, rfl⟩
            rw [irqS]
            clear mp
            go_wp2
            go_roundg (gk - 1)
            case measure => have := HI.out; have := HL.out; omega
            case rel => exact ⟨i + 1, true, c - 1, _, by first | rfl | (congr 1), ⟨H7.out, OK.out⟩, ⟨by have := HI.out; have := HL.out; omega, by have := HI.out; omega⟩, ⟨.inl ⟨rfl, HQ.out⟩⟩, B7⟩
          · obtain ⟨hz, d2, hdue, hcn⟩ := PL.out.2.2 hc0
            subst hz
            have HQ := Aside0.mk hcn
            have mp := MP.out
            clear hc0 MP hcn
            rcases hdue with rfl | ⟨d3, hlast⟩
            ·
              have HFR := Aside0.mk (show 0 ≤ fr ∧ fr < 65536 from HPER.out.2)
              have mp0 := mp
              clear mp0
              go_wp2_with fail
              refine HC.out.mono ?_
              rintro e w7 ⟨rfl, hi, ht⟩
              rw [tick_end] at hi
              have H7 := Aside0.mk hi; have B7 := Aside0.mk (HB.out.trans ht.below); clear hi ht
              go_wp2_with fail
              refine (irq_calls W.heap.size w7 p _ d0 _ H7.out (cS _ _ _ _ _)).mono ?_
              rintro e w8 ⟨rfl, rfl⟩
              rw [irqS]
              have h3 : e3 = 0 ∨ e3 = 1 ∨ e3 = 2 := by have := E3.out; omega
              rcases h3 with rfl | rfl | rfl
              · have HS := Aside0.mk (get_status W.heap.size w7 p _ d0 _ H7.out (oS _ _ _ _ _) (bS _ _ _ _ _) (cS _ _ _ _ _))
                rw [show statA (stA fr fr true true true) d0 = 65 from rfl] at HS
                have k65 : Go.bits .and .u8 65 1 = 1 := by decide
                go_wp2_with fail
                refine HS.out.mono ?_
                rintro e w9 ⟨rfl, hi, ht⟩
                have H9 := Aside0.mk (show Is W.heap.size w9 p (stA fr fr true true false) d0 _ from hi); have B9 := Aside0.mk (B7.out.trans ht.below); clear hi ht
                go_wp2_with fail
                refine (irq_calls W.heap.size w9 p _ d0 _ H9.out (cS _ _ _ _ _)).mono ?_
                rintro e w10 ⟨rfl, rfl⟩
                rw [irqS]
                clear mp
                go_wp2
                go_roundg (gk - 1)
                case measure => have := HI.out; have := HL.out; omega
                case rel => exact ⟨i + 1, true, fr, _, by first | rfl | (congr 1), ⟨H9.out, OK.out⟩, ⟨by have := HI.out; have := HL.out; omega, by have := HI.out; omega⟩, ⟨.inl ⟨rfl, HQ.out, .inl (by first | trivial | rfl)⟩⟩, B9⟩
              · go_wp2_with fail
                refine (put_timer W.heap.size w7 p _ d0 _ H7.out (oS _ _ _ _ _) (bS _ _ _ _ _) 0 ⟨by decide, by decide⟩).mono ?_
                rintro e w9 ⟨rfl, hi, ht⟩
                rw [tim0] at hi
                have H9 := Aside0.mk hi; have B9 := Aside0.mk (B7.out.trans ht.below); clear hi ht
                go_wp2_with fail
                refine (irq_calls W.heap.size w9 p _ d0 _ H9.out (cS _ _ _ _ _)).mono ?_
                rintro e w10 ⟨rfl, rfl⟩
                rw [irqS]
                go_wp2
                go_ret
                exact ⟨rfl, B9.out⟩
              · go_wp2_with fail
                refine (put_open W.heap.size w7 p _ d0 _ H7.out 0 ⟨by decide, by decide⟩).mono ?_
                rintro e w9 ⟨rfl, hi, ht⟩
                rw [shutD0] at hi
                have H9 := Aside0.mk (show Is W.heap.size w9 p (⟨fr, fr, false, true, false, 0, 0, 0, 0, 0, false, false, 32768, 0⟩ : A) d0 _ from hi); have B9 := Aside0.mk (B7.out.trans ht.below); clear hi ht
                go_wp2_with fail
                refine (get_shut W.heap.size w9 p _ d0 _ H9.out ⟨by show (0 : Int) ≤ 0; decide, by show (0 : Int) < 256; decide⟩ rfl 16432 (by decide)).mono ?_
                rintro e w10 ⟨rfl, rfl⟩
                go_wp2_with fail
                refine (irq_calls W.heap.size w9 p _ d0 _ H9.out ⟨by show (0 : Int) ≤ 0; decide, by show (0 : Int) < 256; decide⟩).mono ?_
                rintro e w10 ⟨rfl, rfl⟩
                go_wp2
                go_ret
                exact ⟨rfl, B9.out⟩
            · cases rep
              · have HLA := Aside0.mk hlast
                have HFR := Aside0.mk (show 0 ≤ fr ∧ fr < 65536 from HPER.out.2)
                have mp0 := mp
                clear mp0
                go_wp2_with fail
                refine HC.out.mono ?_
                rintro e w7 ⟨rfl, hi, ht⟩
                rw [tick_end] at hi
                have H7 := Aside0.mk hi; have B7 := Aside0.mk (HB.out.trans ht.below); clear hi ht
                go_wp2_with fail
                refine (irq_calls W.heap.size w7 p _ d0 _ H7.out (cS _ _ _ _ _)).mono ?_
                rintro e w8 ⟨rfl, rfl⟩
                rw [irqS]
                have h3 : e3 = 0 ∨ e3 = 1 ∨ e3 = 2 := by have := E3.out; omega
                rcases h3 with rfl | rfl | rfl
                · have HS := Aside0.mk (get_status W.heap.size w7 p _ d0 _ H7.out (oS _ _ _ _ _) (bS _ _ _ _ _) (cS _ _ _ _ _))
                  rw [show statA (stA fr fr false false true) d0 = 65 from rfl] at HS
                  have k65 : Go.bits .and .u8 65 1 = 1 := by decide
                  go_wp2_with fail
                  refine HS.out.mono ?_
                  rintro e w9 ⟨rfl, hi, ht⟩
                  have H9 := Aside0.mk (show Is W.heap.size w9 p (stA fr fr false false false) d0 _ from hi); have B9 := Aside0.mk (B7.out.trans ht.below); clear hi ht
                  go_wp2_with fail
                  refine (irq_calls W.heap.size w9 p _ d0 _ H9.out (cS _ _ _ _ _)).mono ?_
                  rintro e w10 ⟨rfl, rfl⟩
                  rw [irqS]
                  clear mp
                  go_wp2
                  go_roundg (gk - 1)
                  case measure => have := HI.out; have := HL.out; omega
                  case rel => exact ⟨i + 1, false, fr, _, by first | rfl | (congr 1), ⟨H9.out, OK.out⟩, ⟨by have := HI.out; have := HL.out; omega, by have := HI.out; omega⟩, ⟨.inr ⟨rfl, (by first | trivial | rfl), HLA.out, HFR.out.1, HFR.out.2⟩⟩, B9⟩
                · go_wp2_with fail
                  refine (put_timer W.heap.size w7 p _ d0 _ H7.out (oS _ _ _ _ _) (bS _ _ _ _ _) 0 ⟨by decide, by decide⟩).mono ?_
                  rintro e w9 ⟨rfl, hi, ht⟩
                  rw [tim0] at hi
                  have H9 := Aside0.mk hi; have B9 := Aside0.mk (B7.out.trans ht.below); clear hi ht
                  go_wp2_with fail
                  refine (irq_calls W.heap.size w9 p _ d0 _ H9.out (cS _ _ _ _ _)).mono ?_
                  rintro e w10 ⟨rfl, rfl⟩
                  rw [irqS]
                  go_wp2
                  go_ret
                  exact ⟨rfl, B9.out⟩
                · go_wp2_with fail
                  refine (put_open W.heap.size w7 p _ d0 _ H7.out 0 ⟨by decide, by decide⟩).mono ?_
                  rintro e w9 ⟨rfl, hi, ht⟩
                  rw [shutD0] at hi
                  have H9 := Aside0.mk (show Is W.heap.size w9 p (⟨fr, fr, false, false, false, 0, 0, 0, 0, 0, false, false, 32768, 0⟩ : A) d0 _ from hi); have B9 := Aside0.mk (B7.out.trans ht.below); clear hi ht
                  go_wp2_with fail
                  refine (get_shut W.heap.size w9 p _ d0 _ H9.out ⟨by show (0 : Int) ≤ 0; decide, by show (0 : Int) < 256; decide⟩ rfl 16432 (by decide)).mono ?_
                  rintro e w10 ⟨rfl, rfl⟩
                  go_wp2_with fail
                  refine (irq_calls W.heap.size w9 p _ d0 _ H9.out ⟨by show (0 : Int) ≤ 0; decide, by show (0 : Int) < 256; decide⟩).mono ?_
                  rintro e w10 ⟨rfl, rfl⟩
                  go_wp2
                  go_ret
                  exact ⟨rfl, B9.out⟩
              ·
                have HFR := Aside0.mk (show 0 ≤ fr ∧ fr < 65536 from HPER.out.2)
                have mp0 := mp
                clear mp0
                go_wp2_with fail
                refine HC.out.mono ?_
                rintro e w7 ⟨rfl, hi, ht⟩
                rw [tick_end] at hi
                have H7 := Aside0.mk hi; have B7 := Aside0.mk (HB.out.trans ht.below); clear hi ht
                go_wp2_with fail
                refine (irq_calls W.heap.size w7 p _ d0 _ H7.out (cS _ _ _ _ _)).mono ?_
                rintro e w8 ⟨rfl, rfl⟩
                rw [irqS]
                have h3 : e3 = 0 ∨ e3 = 1 ∨ e3 = 2 := by have := E3.out; omega
                rcases h3 with rfl | rfl | rfl
                · have HS := Aside0.mk (get_status W.heap.size w7 p _ d0 _ H7.out (oS _ _ _ _ _) (bS _ _ _ _ _) (cS _ _ _ _ _))
                  rw [show statA (stA fr fr true true true) d0 = 65 from rfl] at HS
                  have k65 : Go.bits .and .u8 65 1 = 1 := by decide
                  go_wp2_with fail
                  refine HS.out.mono ?_
                  rintro e w9 ⟨rfl, hi, ht⟩
                  have H9 := Aside0.mk (show Is W.heap.size w9 p (stA fr fr true true false) d0 _ from hi); have B9 := Aside0.mk (B7.out.trans ht.below); clear hi ht
                  go_wp2_with fail
                  refine (irq_calls W.heap.size w9 p _ d0 _ H9.out (cS _ _ _ _ _)).mono ?_
                  rintro e w10 ⟨rfl, rfl⟩
                  rw [irqS]
                  clear mp
                  go_wp2
                  go_roundg (gk - 1)
                  case measure => have := HI.out; have := HL.out; omega
                  case rel => exact ⟨i + 1, true, fr, _, by first | rfl | (congr 1), ⟨H9.out, OK.out⟩, ⟨by have := HI.out; have := HL.out; omega, by have := HI.out; omega⟩, ⟨.inl ⟨rfl, HQ.out, .inl (by first | trivial | rfl)⟩⟩, B9⟩
                · go_wp2_with fail
                  refine (put_timer W.heap.size w7 p _ d0 _ H7.out (oS _ _ _ _ _) (bS _ _ _ _ _) 0 ⟨by decide, by decide⟩).mono ?_
                  rintro e w9 ⟨rfl, hi, ht⟩
                  rw [tim0] at hi
                  have H9 := Aside0.mk hi; have B9 := Aside0.mk (B7.out.trans ht.below); clear hi ht
                  go_wp2_with fail
                  refine (irq_calls W.heap.size w9 p _ d0 _ H9.out (cS _ _ _ _ _)).mono ?_
                  rintro e w10 ⟨rfl, rfl⟩
                  rw [irqS]
                  go_wp2
                  go_ret
                  exact ⟨rfl, B9.out⟩
                · go_wp2_with fail
                  refine (put_open W.heap.size w7 p _ d0 _ H7.out 0 ⟨by decide, by decide⟩).mono ?_
                  rintro e w9 ⟨rfl, hi, ht⟩
                  rw [shutD0] at hi
                  have H9 := Aside0.mk (show Is W.heap.size w9 p (⟨fr, fr, false, true, false, 0, 0, 0, 0, 0, false, false, 32768, 0⟩ : A) d0 _ from hi); have B9 := Aside0.mk (B7.out.trans ht.below); clear hi ht
                  go_wp2_with fail
                  refine (get_shut W.heap.size w9 p _ d0 _ H9.out ⟨by show (0 : Int) ≤ 0; decide, by show (0 : Int) < 256; decide⟩ rfl 16432 (by decide)).mono ?_
                  rintro e w10 ⟨rfl, rfl⟩
                  go_wp2_with fail
                  refine (irq_calls W.heap.size w9 p _ d0 _ H9.out ⟨by show (0 : Int) ≤ 0; decide, by show (0 : Int) < 256; decide⟩).mono ?_
                  rintro e w10 ⟨rfl, rfl⟩
                  go_wp2
                  go_ret
                  exact ⟨rfl, B9.out⟩
        · have d2 : (i == per) = false := by rw [beq_eq_false_iff_ne]; omega
          have HC := Aside0.mk (clock0 W.heap.size wr p _ u HR.out.1 ⟨h0, h1⟩ HR.out.2 (HTS.out _ HB.out) HG.out)
          have HPI := Aside0.mk (show per < i + 1 from by omega)
          have HCR := Aside0.mk (And.intro h0 h1)
          have mp := MP.out
          clear hpi h0 h1 MP
          go_wp2_with fail
          refine HC.out.mono ?_
          rintro e w7 ⟨rfl, hi, ht⟩
          rw [tick_off] at hi
          have H7 := Aside0.mk hi; have B7 := Aside0.mk (HB.out.trans ht.below); clear hi ht
          by_cases hd : i % per = 0
          all_goals
            first | have d4 : (i % per == 0) = true := beq_iff_eq.2 hd | have d4 : (i % per == 0) = false := beq_eq_false_iff_ne.2 hd
            clear hd
            go_wp2_with fail
            refine (irq_calls W.heap.size w7 p _ d0 _ H7.out (cS _ _ _ _ _)).mono ?_
            rintro e w8 ⟨rfl, rfl⟩
            rw [irqS]
            clear mp
            go_wp2
            go_roundg (gk - 1)
            case measure => have := HI.out; have := HL.out; omega
            case rel => exact ⟨i + 1, false, c, _, by first | rfl | (congr 1), ⟨H7.out, OK.out⟩, ⟨by have := HI.out; have := HL.out; omega, by have := HI.out; omega⟩, ⟨.inr ⟨rfl, (by first | trivial | rfl), HPI.out, HCR.out.1, HCR.out.2⟩⟩, B7⟩
      · have d1 : decide (i ≤ 1 + n5) = false := decide_eq_false hlt
        clear hlt
        go_wp2
        go_ret
        exact ⟨rfl, HB.out⟩
end Go.Proofs.YtaiaapjlpbhlbaaDoor.Ada

namespace Go.Proofs.YtaiaapjlpbhlbaaDoor.Ada
open Go.RowKit Go.Proofs.YtaiaapjlpbhlbaaDoorW.PrintWords Go.Proofs.YtaiaapjlpbhlbaaDoorW.PrintLast Go.Proofs.YtaiaapjlpbhlbaaDoorW.PrintMore
set_option linter.unusedVariables false
set_option linter.unusedSimpArgs false
set_option maxRecDepth 20000
def readA (a : A) (b : Int) : A := if bit a.ctl 64 = false then a else if a.found = true then { a with inn := b, asks := true, sum := stp a.sum b } else if b = 0 then a else { a with found := true, sum := stp 32768 b }
theorem read_calls (base : Nat) (W : World) (p : P) (a : A) (d : Drv.D) (u : Wave.V) (h : Is base W p a d u) (hc : U8 a.ctl) (hs : 0 ≤ a.sum ∧ a.sum < 65536) (b : Int) (hb : U8 b) :
    Calls Tryd.prog 47 #[.pointer (some ⟨p.g, 0, none⟩), .int .u8 b] W fun e W' => e = .returned (.tuple #[]) ∧ Is base W' p (readA a b) d u ∧ Turn base W W' (Foot p) := by
  have H := Aside0.mk h
  have c8 : W.cell? ⟨p.g, 8, none⟩ = some (.int .u8 a.ctl) := h.cell 8
  have c13 : W.cell? ⟨p.g, 13, none⟩ = some (.bool a.found) := h.cell 13
  have a64 := and_bit a.ctl hc 64 (by decide)
  have HS1 := Aside0.mk (fun (W1 : World) => step_calls a.sum b hs hb W1)
  have HS2 := Aside0.mk (fun (W1 : World) => step_calls 32768 b ⟨by decide, by decide⟩ hb W1)
  unfold readA
  generalize stp a.sum b = s1 at *
  generalize stp 32768 b = s2 at *
  generalize bit a.ctl 64 = b64 at *
  cases b64
  · rw [if_pos rfl]
    clear h hc hs hb
    go_enter Tryd.func47, Tryd.ntmps47
    go_wp2
    go_end0
    exact ⟨rfl, H.out, Drive.Turn.refl _ _ _⟩
  rw [if_neg (show ¬ (true = false) by decide)]
  by_cases hf : a.found = true
  rotate_left
  · have hf' : a.found = false := by simpa using hf
    rw [hf'] at c13
    rw [if_neg hf]
    clear hf'
    by_cases h0 : b = 0
    · rw [if_pos h0]
      subst h0
      clear h hc hs hb hf
      go_enter Tryd.func47, Tryd.ntmps47
      go_wp2
      go_end0
      exact ⟨rfl, H.out, Drive.Turn.refl _ _ _⟩
    · rw [if_neg h0]
      have t0 : (b == 0) = false := by simpa using h0
      have t1 : (b != 0) = true := by rw [bne, t0]; rfl
      have c14 : W.cell? ⟨p.g, 14, none⟩ = some (.int .u16 a.sum) := h.cell 14
      have f13 := h.frozen 13
      have f14 := h.frozen 14
      clear h hc hs hb hf h0
      go_enter Tryd.func47, Tryd.ntmps47
      go_wp2_with fail
      refine (HS2.out _).mono ?_
      rintro e w2 ⟨rfl, ⟨n2, rfl⟩⟩
      go_wp2
      go_end0
      exact ⟨rfl, ((H.out.drewN n2).set_ (a' := { a with found := true }) 13 (.bool true) rfl).set_ 14 (.int .u16 s2) rfl, (((Drive.Turn.refl _ _ _).drewN n2).set_ (.inl rfl) H.out.bs _).set_ (.inl rfl) H.out.bs _⟩
  · rw [hf] at c13
    rw [if_pos hf]
    have c9 : W.cell? ⟨p.g, 9, none⟩ = some (.int .u8 a.inn) := h.cell 9
    have c12 : W.cell? ⟨p.g, 12, none⟩ = some (.bool a.asks) := h.cell 12
    have f9 := h.frozen 9
    have f12 := h.frozen 12
    have H1 := Aside0.mk ((h.set_ (a' := { a with inn := b }) 9 (.int .u8 b) rfl).set_ (a' := { a with inn := b, asks := true }) 12 (.bool true) rfl)
    have T1 := Aside0.mk (((Drive.Turn.refl base W (Foot p)).set_ (i := 9) (.inl rfl) h.bs (.int .u8 b)).set_ (i := 12) (.inl rfl) h.bs (.bool true))
    have c14 : ((W.setCell ⟨p.g, 9, none⟩ (.int .u8 b)).setCell ⟨p.g, 12, none⟩ (.bool true)).cell? ⟨p.g, 14, none⟩ = some (.int .u16 a.sum) := H1.out.cell 14
    have f14 := H1.out.frozen 14
    clear h hc hs hb hf
    go_enter Tryd.func47, Tryd.ntmps47
    go_wp2_with fail
    refine (HS1.out _).mono ?_
    rintro e w2 ⟨rfl, ⟨n2, rfl⟩⟩
    go_wp2
    go_end0
    exact ⟨rfl, (H1.out.drewN n2).set_ (a' := { a with inn := b, asks := true, sum := s1 }) 14 (.int .u16 s1) rfl, (T1.out.drewN n2).set_ (.inl rfl) H1.out.bs _⟩
def s2I (a : A) : Int := stp (stp a.sum 0) 0
def nextA (a : A) : A :=
  if bit a.ctl 64 = false then a else if bit a.ctl 16 = false then { a with sum := stp a.sum a.out, tail := 0 }
  else if a.tail = 0 then { a with sum := s2I a, tail := 1 } else if a.tail = 1 then { a with tail := 2 } else a
def nextB (a : A) : Int :=
  if bit a.ctl 64 = false then 0 else if bit a.ctl 16 = false then a.out
  else if a.tail = 0 then s2I a % 256 else if a.tail = 1 then a.sum / 256 else 0
set_option maxHeartbeats 4000000 in
theorem next_calls (base : Nat) (W : World) (p : P) (a : A) (d : Drv.D) (u : Wave.V) (h : Is base W p a d u) (hc : U8 a.ctl) (ho : U8 a.out) (hs : 0 ≤ a.sum ∧ a.sum < 65536) (ht : 0 ≤ a.tail ∧ a.tail ≤ 2) :
    Calls Tryd.prog 50 #[.pointer (some ⟨p.g, 0, none⟩)] W fun e W' => e = .returned (.int .u8 (nextB a)) ∧ Is base W' p (nextA a) d u ∧ Turn base W W' (Foot p) := by
  have H := Aside0.mk h
  have c8 : W.cell? ⟨p.g, 8, none⟩ = some (.int .u8 a.ctl) := h.cell 8
  have c15 : W.cell? ⟨p.g, 15, none⟩ = some (.int .i64 a.tail) := h.cell 15
  have a64 := and_bit a.ctl hc 64 (by decide)
  have a16 := and_bit a.ctl hc 16 (by decide)
  have HS1 := Aside0.mk (fun (W1 : World) => step_calls a.sum a.out hs ho W1)
  have HS2 := Aside0.mk (fun (W1 : World) => step_calls a.sum 0 hs ⟨by decide, by decide⟩ W1)
  have hr2 := stp_range a.sum 0 hs
  have HS3 := Aside0.mk (fun (W1 : World) => step_calls (stp a.sum 0) 0 hr2 ⟨by decide, by decide⟩ W1)
  have hr3 := stp_range (stp a.sum 0) 0 hr2
  unfold nextA nextB s2I
  generalize stp (stp a.sum 0) 0 = s3 at *
  generalize stp a.sum 0 = s2 at *
  generalize stp a.sum a.out = s1 at *
  generalize bit a.ctl 64 = b64 at *
  generalize bit a.ctl 16 = b16 at *
  cases b64
  · rw [if_pos rfl, if_pos rfl]
    clear h hc ho hs ht hr2 hr3
    go_enter Tryd.func50, Tryd.ntmps50
    go_wp2
    go_ret
    exact ⟨rfl, H.out, Drive.Turn.refl _ _ _⟩
  rw [if_neg (show ¬ (true = false) by decide), if_neg (show ¬ (true = false) by decide)]
  cases b16
  · rw [if_pos rfl, if_pos rfl]
    have H1 := Aside0.mk h.drew
    have c15' : W.drew.cell? ⟨p.g, 15, none⟩ = some (.int .i64 a.tail) := H1.out.cell 15
    have f14 := h.drew.frozen 14
    have f15 := h.drew.frozen 15
    clear h hc ho hs ht hr2 hr3
    go_enter Tryd.func50, Tryd.ntmps50
    go_wp2
    refine start_ (n := 17) (S := fun w' => w'.cell? ⟨p.g, 14, none⟩ = some (.int .u16 a.sum) ∧ w'.cell? ⟨p.g, 10, none⟩ = some (.int .u8 a.out)) (ds := [13, 16]) #[false, false, false, false, false, false, false, false, false, false, false, false, false, false, false, false, false] (by kernel_rfl) rfl rfl ⟨H1.out.cell 14, H1.out.cell 10⟩ (fun hHeld => ?_)
    refine pure_ (i := 0) (N := some 17) (v := ?_) (a' := ?_) #[true, false, false, false, false, false, false, false, false, false, false, false, false, false, false, false, false] rfl rfl (by kernel_rfl) (fun _ _ _ h => h) (Or.inl ⟨by rfl, ?_⟩) ?_ ?_
    rotate_left
    · intro w'
      go_simp
      with_reducible rfl
    rotate_left
    · simp only [Act.put, List.setIfInBounds_toArray, List.set_cons_zero, List.set_cons_succ, i64_w, i32_w]
      rfl
    refine pure_ (i := 1) (N := some 18) (v := ?_) (a' := ?_) #[true, true, false, false, false, false, false, false, false, false, false, false, false, false, false, false, false] rfl rfl (by kernel_rfl) (fun _ _ _ h => h) (Or.inl ⟨by rfl, ?_⟩) ?_ ?_
    rotate_left
    · intro w'
      go_simp
      with_reducible rfl
    rotate_left
    · simp only [Act.put, List.setIfInBounds_toArray, List.set_cons_zero, List.set_cons_succ, i64_w, i32_w]
      rfl
    refine pure_ (i := 2) (N := some 19) (v := ?_) (a' := ?_) #[true, true, true, false, false, false, false, false, false, false, false, false, false, false, false, false, false] rfl rfl (by kernel_rfl) (fun _ _ _ h => h) (Or.inl ⟨by rfl, ?_⟩) ?_ ?_
    rotate_left
    · intro w'
      go_simp
      with_reducible rfl
    rotate_left
    · simp only [Act.put, List.setIfInBounds_toArray, List.set_cons_zero, List.set_cons_succ, i64_w, i32_w]
      rfl
    refine pure_ (i := 3) (N := some 20) (v := ?_) (a' := ?_) #[true, true, true, true, false, false, false, false, false, false, false, false, false, false, false, false, false] rfl rfl (by kernel_rfl) (fun _ _ _ h => h) (Or.inl ⟨by rfl, ?_⟩) ?_ ?_
    rotate_left
    · intro w'
      go_simp
      with_reducible rfl
    rotate_left
    · simp only [Act.put, List.setIfInBounds_toArray, List.set_cons_zero, List.set_cons_succ, i64_w, i32_w]
      rfl
    refine pure_ (i := 4) (N := some 21) (v := ?_) (a' := ?_) #[true, true, true, true, true, false, false, false, false, false, false, false, false, false, false, false, false] rfl rfl (by kernel_rfl) (fun _ _ _ h => h) (Or.inl ⟨by rfl, ?_⟩) ?_ ?_
    rotate_left
    · intro w'
      go_simp
      with_reducible rfl
    rotate_left
    · simp only [Act.put, List.setIfInBounds_toArray, List.set_cons_zero, List.set_cons_succ, i64_w, i32_w]
      rfl
    refine pure_ (i := 6) (N := some 23) (v := ?_) (a' := ?_) #[true, true, true, true, true, false, true, false, false, false, false, false, false, false, false, false, false] rfl rfl (by kernel_rfl) (fun _ _ _ h => h) (Or.inl ⟨by rfl, ?_⟩) ?_ ?_
    rotate_left
    · intro w'
      go_simp
      with_reducible rfl
    rotate_left
    · simp only [Act.put, List.setIfInBounds_toArray, List.set_cons_zero, List.set_cons_succ, i64_w, i32_w]
      rfl
    refine pure_ (i := 7) (N := some 24) (v := ?_) (a' := ?_) #[true, true, true, true, true, false, true, true, false, false, false, false, false, false, false, false, false] rfl rfl (by kernel_rfl) (fun _ _ _ h => h) (Or.inl ⟨by rfl, ?_⟩) ?_ ?_
    rotate_left
    · intro w'
      go_simp
      with_reducible rfl
    rotate_left
    · simp only [Act.put, List.setIfInBounds_toArray, List.set_cons_zero, List.set_cons_succ, i64_w, i32_w]
      rfl
    refine pure_ (i := 8) (N := some 25) (v := ?_) (a' := ?_) #[true, true, true, true, true, false, true, true, true, false, false, false, false, false, false, false, false] rfl rfl (by kernel_rfl) (fun _ _ _ h => h) (Or.inl ⟨by rfl, ?_⟩) ?_ ?_
    rotate_left
    · intro w'
      go_simp
      with_reducible rfl
    rotate_left
    · simp only [Act.put, List.setIfInBounds_toArray, List.set_cons_zero, List.set_cons_succ, i64_w, i32_w]
      rfl
    refine take_ (i := 5) (N := some 22) (v := ?_) (a' := ?_) #[true, true, true, true, true, true, true, true, true, false, false, false, false, false, false, false, false] rfl rfl (by kernel_rfl) (fun _ _ _ h => h) (Or.inl ⟨by rfl, ?_⟩) hHeld ?_ ?_
    rotate_left
    · rintro w' ⟨s0, s1⟩
      go_simp
      with_reducible rfl
    rotate_left
    · simp only [Act.put, List.setIfInBounds_toArray, List.set_cons_zero, List.set_cons_succ, i64_w, i32_w]
      rfl
    refine take_ (i := 9) (N := some 26) (v := ?_) (a' := ?_) #[true, true, true, true, true, true, true, true, true, true, false, false, false, false, false, false, false] rfl rfl (by kernel_rfl) (fun _ _ _ h => h) (Or.inl ⟨by rfl, ?_⟩) hHeld ?_ ?_
    rotate_left
    · rintro w' ⟨s0, s1⟩
      go_simp
      with_reducible rfl
    rotate_left
    · simp only [Act.put, List.setIfInBounds_toArray, List.set_cons_zero, List.set_cons_succ, i64_w, i32_w]
      rfl
    refine one_ (i := 10) (N := some 27) #[true, true, true, true, true, true, true, true, true, true, true, false, false, false, false, false, false] rfl rfl (by kernel_rfl) (by decide) (fun K hK => ?_)
    refine goes_ Tryd.func83 (by kernel_rfl) rfl #[.int .u16 a.sum, .int .u8 a.out] (by rfl) rfl rfl (by simp only [List.map_toArray, List.map_cons, List.map_nil]; rfl) ?_
    with_reducible refine (HS1.out _).mono ?_
    rintro e w6 ⟨rfl, ⟨n6, rfl⟩⟩
    refine ⟨_, rfl, ?_⟩
    refine hK.out _ _ ⟨(H1.out.drewN n6).cell 14, (H1.out.drewN n6).cell 10⟩ (fun hHeld => ?_)
    clear hK K
    refine norm_ (a' := ?_) ?_ ?_
    rotate_left
    · show Act.put _ (some 27) _ = _
      simp only [Act.put, List.setIfInBounds_toArray, List.set_cons_zero, List.set_cons_succ, i64_w, i32_w]
      rfl
    refine pure_ (i := 11) (N := some 28) (v := ?_) (a' := ?_) #[true, true, true, true, true, true, true, true, true, true, true, true, false, false, false, false, false] rfl rfl (by kernel_rfl) (fun _ _ _ h => h) (Or.inl ⟨by rfl, ?_⟩) ?_ ?_
    rotate_left
    · intro w'
      go_simp
      with_reducible rfl
    rotate_left
    · simp only [Act.put, List.setIfInBounds_toArray, List.set_cons_zero, List.set_cons_succ, i64_w, i32_w]
      rfl
    refine pure_ (i := 12) (N := some 29) (v := ?_) (a' := ?_) #[true, true, true, true, true, true, true, true, true, true, true, true, true, false, false, false, false] rfl rfl (by kernel_rfl) (fun _ _ _ h => h) (Or.inl ⟨by rfl, ?_⟩) ?_ ?_
    rotate_left
    · intro w'
      go_simp
      with_reducible rfl
    rotate_left
    · simp only [Act.put, List.setIfInBounds_toArray, List.set_cons_zero, List.set_cons_succ, i64_w, i32_w]
      rfl
    refine last_ (i := 13) (N := none) #[true, true, true, true, true, true, true, true, true, true, true, true, true, true, false, false, false] rfl rfl (by kernel_rfl) (by decide) (fun K hK => ?_)
    have x14 : W.cell? ⟨p.g, 14, none⟩ = some (.int .u16 a.sum) := H.out.cell 14; have y14 := H.out.frozen 14; have y15 := H.out.frozen 15
    refine skip_ (w1 := ?_) (by rfl) rfl ?_ ?_
    rotate_left
    · go_simp
      rfl
    refine hK.out _ _ ?_
    clear hK K
    refine pure_ (i := 14) (N := some 30) (v := ?_) (a' := ?_) #[true, true, true, true, true, true, true, true, true, true, true, true, true, true, true, false, false] rfl rfl (by kernel_rfl) (fun _ _ _ h => h) (Or.inl ⟨by rfl, ?_⟩) ?_ ?_
    rotate_left
    · intro w'
      go_simp
      with_reducible rfl
    rotate_left
    · simp only [Act.put, List.setIfInBounds_toArray, List.set_cons_zero, List.set_cons_succ, i64_w, i32_w]
      rfl
    refine pure_ (i := 15) (N := some 31) (v := ?_) (a' := ?_) #[true, true, true, true, true, true, true, true, true, true, true, true, true, true, true, true, false] rfl rfl (by kernel_rfl) (fun _ _ _ h => h) (Or.inl ⟨by rfl, ?_⟩) ?_ ?_
    rotate_left
    · intro w'
      go_simp
      with_reducible rfl
    rotate_left
    · simp only [Act.put, List.setIfInBounds_toArray, List.set_cons_zero, List.set_cons_succ, i64_w, i32_w]
      rfl
    refine last_ (i := 16) (N := none) #[true, true, true, true, true, true, true, true, true, true, true, true, true, true, true, true, true] rfl rfl (by kernel_rfl) (by decide) (fun K hK => ?_)
    refine skip_ (w1 := ?_) (by rfl) rfl ?_ ?_
    rotate_left
    · go_simp
      rfl
    refine hK.out _ _ ?_
    clear hK K
    refine done_ (by kernel_rfl) ?_
    have H5 := Aside0.mk (((H.out.drewN (1 + n6)).set_ (a' := { a with sum := s1 }) 14 (.int .u16 s1) rfl).set_ (a' := { a with sum := s1, tail := 0 }) 15 (.int .i64 0) rfl)
    have T5 := Aside0.mk ((((Drive.Turn.refl base W (Foot p)).drewN (1 + n6)).set_ (i := 14) (.inl rfl) H.out.bs (.int .u16 s1)).set_ (i := 15) (.inl rfl) H.out.bs (.int .i64 0))
    clear x14 y14 y15 c15' f14 f15
    generalize ((W.drewN (1 + n6)).setCell ⟨p.g, 14, none⟩ (.int .u16 s1)).setCell ⟨p.g, 15, none⟩ (.int .i64 0) = w6 at *
    have k10 : w6.cell? ⟨p.g, 10, none⟩ = some (.int .u8 a.out) := H5.out.cell 10
    go_wp2
    go_ret
    exact ⟨rfl, H5.out, T5.out⟩
  rw [if_neg (show ¬ (true = false) by decide), if_neg (show ¬ (true = false) by decide)]
  have c14 : W.cell? ⟨p.g, 14, none⟩ = some (.int .u16 a.sum) := h.cell 14
  have f14 := h.frozen 14
  have f15 := h.frozen 15
  by_cases h0 : a.tail = 0
  · rw [if_pos h0, if_pos h0]
    rw [h0] at c15
    have w3 : IntKind.u8.wrap s3 = s3 % 256 := by rw [IntKind.wrap_u8]
    clear h hc ho hs ht hr2 hr3 h0
    go_enter Tryd.func50, Tryd.ntmps50
    go_wp2_with fail
    refine (HS2.out _).mono ?_
    rintro e w2 ⟨rfl, ⟨n2, rfl⟩⟩
    go_wp2_with fail
    refine (HS3.out _).mono ?_
    rintro e w3 ⟨rfl, ⟨n3, rfl⟩⟩
    have H5 := Aside0.mk (fun (n : Nat) => ((H.out.drewN n).set_ (a' := { a with sum := s3 }) 14 (.int .u16 s3) rfl).set_ (a' := { a with sum := s3, tail := 1 }) 15 (.int .i64 1) rfl)
    have T5 := Aside0.mk (fun (n : Nat) => ((((Drive.Turn.refl base W (Foot p)).drewN n).set_ (i := 14) (.inl rfl) H.out.bs (.int .u16 s3)).set_ (i := 15) (.inl rfl) H.out.bs (.int .i64 1)))
    go_wp2
    go_ret
    exact ⟨by first | rfl | exact congrArg (fun n => Ending.returned (.int .u8 n)) w3, H5.out _, T5.out _⟩
  rw [if_neg h0, if_neg h0]
  have t0 : (a.tail == 0) = false := by simpa using h0
  by_cases h1 : a.tail = 1
  · rw [if_pos h1, if_pos h1]
    rw [h1] at c15
    have w3 : IntKind.u8.wrap (a.sum / 256) = a.sum / 256 := by rw [IntKind.wrap_u8]; omega
    have H5 := Aside0.mk (h.set_ (a' := { a with tail := 2 }) 15 (.int .i64 2) rfl)
    have T5 := Aside0.mk ((Drive.Turn.refl base W (Foot p)).set_ (i := 15) (.inl rfl) h.bs (.int .i64 2))
    have k14 : (W.setCell ⟨p.g, 15, none⟩ (.int .i64 2)).cell? ⟨p.g, 14, none⟩ = some (.int .u16 a.sum) := H5.out.cell 14
    clear h hc ho hs ht hr2 hr3 h0 h1
    go_enter Tryd.func50, Tryd.ntmps50
    go_wp2
    go_ret
    exact ⟨by first | rfl | exact congrArg (fun n => Ending.returned (.int .u8 n)) w3, H5.out, T5.out⟩
  · rw [if_neg h1, if_neg h1]
    have t1 : (a.tail == 1) = false := by simpa using h1
    clear h hc ho hs ht hr2 hr3 h0 h1
    go_enter Tryd.func50, Tryd.ntmps50
    go_wp2
    go_ret
    exact ⟨rfl, H.out, Drive.Turn.refl _ _ _⟩
theorem tick_keeps (a : A) : (tick a).ctl = a.ctl ∧ (tick a).out = a.out ∧ (tick a).sum = a.sum ∧ (tick a).tail = a.tail ∧ (tick a).opn = a.opn := by
  unfold tick
  split
  · exact ⟨rfl, rfl, rfl, rfl, rfl⟩
  · split <;> exact ⟨rfl, rfl, rfl, rfl, rfl⟩
theorem nextB_u8 {a : A} (ho : U8 a.out) (hs : 0 ≤ a.sum ∧ a.sum < 65536) : U8 (nextB a) := by
  have h3 := stp_range (stp a.sum 0) 0 (stp_range a.sum 0 hs)
  have z : U8 0 := ⟨by decide, by decide⟩
  unfold nextB s2I
  generalize stp (stp a.sum 0) 0 = s3 at *
  split
  · exact z
  · split
    · exact ho
    · split
      · exact ⟨by omega, by omega⟩
      · split
        · exact ⟨by omega, by omega⟩
        · exact z
/-- what a cycle in which a byte passes makes of the adapter, and of its drive -/
def passA (a : A) (d1 : Drv.D) : A := if bit a.ctl 2 = true then a else if bit a.ctl 4 = true then readA a (Drive.getI d1) else { nextA a with asks := true }
def passD (a : A) (d1 : Drv.D) : Drv.D := if bit a.ctl 2 = true then d1 else if bit a.ctl 4 = true then d1 else Drive.laid d1 (nextB a)
set_option maxHeartbeats 8000000 in
theorem clock_passes (base : Nat) (W : World) (p : P) (a : A) (d : Drv.D) (u : Wave.V) (h : Is base W p a d u) (hc : 0 ≤ a.count ∧ a.count < 65536) (hctl : U8 a.ctl) (ho : U8 a.out) (hs : 0 ≤ a.sum ∧ a.sum < 65536) (htl : 0 ≤ a.tail ∧ a.tail ≤ 2) (hu : Wave.Okv u) (hts : Wave.TS W) (hgb : 1 < base) (hf : Drive.Fit d) (hn : (Drv.clk d).2 = true)
    (hp : 0 ≤ (Drv.clk d).1.passed ∧ (Drv.clk d).1.passed < (Drv.clk d).1.side.length) (hgd : (Drv.clk d).1.guarded = false) (hg8 : U8 (Drive.getI (Drv.clk d).1)) :
    Calls Tryd.prog 12 #[.pointer (some ⟨p.g, 0, none⟩)] W fun e W' => e = .returned (.tuple #[]) ∧ Is base W' p (passA (tick a) (Drv.clk d).1) (passD (tick a) (Drv.clk d).1) (Wave.clockV u) ∧ Turn base W W' (Foot p) := by
  have H := Aside0.mk h
  have c1 : W.cell? ⟨p.g, 1, none⟩ = some (.pointer (some ⟨p.gw, 0, none⟩)) := h.cell 1
  have HW := Aside0.mk (Wave.clock_calls base p.gw u W h.wv hu hts hgb)
  have HT := Aside0.mk (fun (W1 : World) (h1 : Is base W1 p a d (Wave.clockV u)) => tick_calls base W1 p a d (Wave.clockV u) h1 hc)
  have HD := Aside0.mk (fun (W1 : World) (h1 : Is base W1 p (tick a) d (Wave.clockV u)) => Drive.clock_calls base p.gd p.v d W1 h1.dr hf)
  rw [hn] at HD
  have tk := tick_keeps a
  have a2 := and_bit (tick a).ctl (by rw [tk.1]; exact hctl) 2 (by decide)
  have a4 := and_bit (tick a).ctl (by rw [tk.1]; exact hctl) 4 (by decide)
  have HG := Aside0.mk (fun (W1 : World) (h1 : Is base W1 p (tick a) (Drv.clk d).1 (Wave.clockV u)) => Drive.get_calls base p.gd p.v (Drv.clk d).1 W1 h1.dr (.inr hp))
  have HRD := Aside0.mk (fun (W1 : World) (h1 : Is base W1 p (tick a) (Drv.clk d).1 (Wave.clockV u)) => read_calls base W1 p (tick a) (Drv.clk d).1 (Wave.clockV u) h1 (by rw [tk.1]; exact hctl) (by rw [tk.2.2.1]; exact hs) (Drive.getI (Drv.clk d).1) hg8)
  have HN := Aside0.mk (fun (W1 : World) (h1 : Is base W1 p (tick a) (Drv.clk d).1 (Wave.clockV u)) => next_calls base W1 p (tick a) (Drv.clk d).1 (Wave.clockV u) h1 (by rw [tk.1]; exact hctl) (by rw [tk.2.1]; exact ho) (by rw [tk.2.2.1]; exact hs) (by rw [tk.2.2.2.1]; exact htl))
  have HL := Aside0.mk (fun (W1 : World) (h1 : Is base W1 p (nextA (tick a)) (Drv.clk d).1 (Wave.clockV u)) => Drive.lay_yes base p.gd p.v (Drv.clk d).1 (nextB (tick a)) W1 h1.dr hp.1 hp.2 hgd)
  unfold passA passD
  generalize Drive.getI (Drv.clk d).1 = gb at *
  generalize readA (tick a) gb = ra at *
  generalize nextA (tick a) = na at *
  generalize nextB (tick a) = nb at *
  generalize (Drv.clk d).1 = d1 at *
  generalize Wave.clockV u = u' at *
  generalize tick a = a' at *
  generalize hq2 : bit a'.ctl 2 = b2 at *
  generalize hq4 : bit a'.ctl 4 = b4 at *
  clear h hc hctl ho hs htl hu hts hgb hf hn hp hgd hg8 tk hq2 hq4
  go_enter Tryd.func12, Tryd.ntmps12
  go_wp2_with fail
  refine HW.out.mono ?_
  rintro e w1 ⟨rfl, hi, ht⟩
  have H1 := Aside0.mk (H.out.after_wave hi ht); have T1 := Aside0.mk (of_wave (p := p) ht); clear hi ht
  go_wp2_with fail
  refine (HT.out _ H1.out).mono ?_
  rintro e w2 ⟨rfl, hi, ht⟩
  have H2 := Aside0.mk hi; have T2 := Aside0.mk (T1.out.trans ht); clear hi ht
  have c0 : w2.cell? ⟨p.g, 0, none⟩ = some (.pointer (some ⟨p.gd, 0, none⟩)) := H2.out.cell 0
  go_wp2_with fail
  refine (HD.out _ H2.out).mono ?_
  rintro e w3 ⟨rfl, hi, ht⟩
  have H3 := Aside0.mk (H2.out.after_drive hi ht); have T3 := Aside0.mk (T2.out.trans (of_drive ht)); clear hi ht
  have k0 : w3.cell? ⟨p.g, 0, none⟩ = some (.pointer (some ⟨p.gd, 0, none⟩)) := H3.out.cell 0
  have k8 : w3.cell? ⟨p.g, 8, none⟩ = some (.int .u8 a'.ctl) := H3.out.cell 8
  cases b2
  · cases b4
    · go_wp2
      refine start_ (n := 7) (S := fun w' => w'.cell? ⟨p.g, 0, none⟩ = some (.pointer (some ⟨p.gd, 0, none⟩))) (ds := [6]) #[false, false, false, false, false, false, false] (by kernel_rfl) rfl rfl (H3.out.drew.cell 0) (fun hHeld => ?_)
      refine pure_ (i := 0) (N := some 40) (v := ?_) (a' := ?_) #[true, false, false, false, false, false, false] rfl rfl (by kernel_rfl) (fun _ _ _ h => h) (Or.inl ⟨by rfl, ?_⟩) ?_ ?_
      rotate_left
      · intro w'
        go_simp
        with_reducible rfl
      rotate_left
      · simp only [Act.put, List.setIfInBounds_toArray, List.set_cons_zero, List.set_cons_succ, i64_w, i32_w]
        rfl
      refine pure_ (i := 1) (N := some 41) (v := ?_) (a' := ?_) #[true, true, false, false, false, false, false] rfl rfl (by kernel_rfl) (fun _ _ _ h => h) (Or.inl ⟨by rfl, ?_⟩) ?_ ?_
      rotate_left
      · intro w'
        go_simp
        with_reducible rfl
      rotate_left
      · simp only [Act.put, List.setIfInBounds_toArray, List.set_cons_zero, List.set_cons_succ, i64_w, i32_w]
        rfl
      refine pure_ (i := 2) (N := some 42) (v := ?_) (a' := ?_) #[true, true, true, false, false, false, false] rfl rfl (by kernel_rfl) (fun _ _ _ h => h) (Or.inl ⟨by rfl, ?_⟩) ?_ ?_
      rotate_left
      · intro w'
        go_simp
        with_reducible rfl
      rotate_left
      · simp only [Act.put, List.setIfInBounds_toArray, List.set_cons_zero, List.set_cons_succ, i64_w, i32_w]
        rfl
      refine pure_ (i := 4) (N := some 44) (v := ?_) (a' := ?_) #[true, true, true, false, true, false, false] rfl rfl (by kernel_rfl) (fun _ _ _ h => h) (Or.inl ⟨by rfl, ?_⟩) ?_ ?_
      rotate_left
      · intro w'
        go_simp
        with_reducible rfl
      rotate_left
      · simp only [Act.put, List.setIfInBounds_toArray, List.set_cons_zero, List.set_cons_succ, i64_w, i32_w]
        rfl
      refine take_ (i := 3) (N := some 43) (v := ?_) (a' := ?_) #[true, true, true, true, true, false, false] rfl rfl (by kernel_rfl) (fun _ _ _ h => h) (Or.inl ⟨by rfl, ?_⟩) hHeld ?_ ?_
      rotate_left
      · intro w' s0
        go_simp
        with_reducible rfl
      rotate_left
      · simp only [Act.put, List.setIfInBounds_toArray, List.set_cons_zero, List.set_cons_succ, i64_w, i32_w]
        rfl
      refine one_ (i := 5) (N := some 45) #[true, true, true, true, true, true, false] rfl rfl (by kernel_rfl) (by decide) (fun K hK => ?_)
      refine goes_ Tryd.func50 (by kernel_rfl) rfl #[.pointer (some ⟨p.g, 0, none⟩)] (by rfl) rfl rfl (by simp only [List.map_toArray, List.map_cons, List.map_nil]; rfl) ?_
      with_reducible refine (HN.out _ H3.out.drew).mono ?_
      rintro e w5 ⟨rfl, hi, ht⟩
      refine ⟨_, rfl, ?_⟩
      have H5 := Aside0.mk hi; have T5 := Aside0.mk (T3.out.drew.trans ht); clear hi ht
      refine hK.out _ _ (H5.out.cell 0) (fun hHeld => ?_)
      clear hK K
      refine norm_ (a' := ?_) ?_ ?_
      rotate_left
      · show Act.put _ (some 45) _ = _
        simp only [Act.put, List.setIfInBounds_toArray, List.set_cons_zero, List.set_cons_succ, i64_w, i32_w]
        rfl
      refine last_ (i := 6) (N := some 46) #[true, true, true, true, true, true, true] rfl rfl (by kernel_rfl) (by decide) (fun K hK => ?_)
      refine goes_ Tryd.func49 (by kernel_rfl) rfl #[.pointer (some ⟨p.gd, 0, none⟩), .int .u8 nb] (by rfl) rfl rfl (by simp only [List.map_toArray, List.map_cons, List.map_nil]; rfl) ?_
      with_reducible refine (HL.out _ H5.out).mono ?_
      rintro e w6 ⟨rfl, hi, ht⟩
      refine ⟨_, rfl, ?_⟩
      have H6 := Aside0.mk (H5.out.after_drive hi ht); have T6 := Aside0.mk (T5.out.trans (of_drive ht)); clear hi ht
      refine hK.out _ _ ?_
      clear hK K
      refine norm_ (a' := ?_) ?_ ?_
      rotate_left
      · show Act.put _ (some 46) _ = _
        simp only [Act.put, List.setIfInBounds_toArray, List.set_cons_zero, List.set_cons_succ, i64_w, i32_w]
        rfl
      refine done_ (by kernel_rfl) ?_
      have k12 : w6.cell? ⟨p.g, 12, none⟩ = some (.bool na.asks) := H6.out.cell 12
      have f12 := H6.out.frozen 12
      go_wp2
      go_end0
      exact ⟨rfl, H6.out.set_ 12 (.bool true) rfl, T6.out.set_ (.inl rfl) H6.out.bs _⟩
    · go_wp2_with fail
      refine (HG.out _ H3.out).mono ?_
      rintro e w4 ⟨rfl, n4, rfl⟩
      go_wp2_with fail
      refine (HRD.out _ (H3.out.drewN n4)).mono ?_
      rintro e w5 ⟨rfl, hi, ht⟩
      have H5 := Aside0.mk hi; have T5 := Aside0.mk ((T3.out.drewN n4).trans ht); clear hi ht
      go_wp2
      go_end0
      exact ⟨rfl, H5.out, T5.out⟩
  · go_wp2
    first | go_end0 | ((try simp only [Exit.inBlock, Exit.then]); refine bodyPost_ret (results_none rfl _ _ _) rfl ?_)
    exact ⟨rfl, H3.out, T3.out⟩
end Go.Proofs.YtaiaapjlpbhlbaaDoor.Ada

namespace Go.Proofs.YtaiaapjlpbhlbaaDoor.Wave
open Go.RowKit Go.Proofs.YtaiaapjlpbhlbaaDoorW.PrintWords Go.Proofs.YtaiaapjlpbhlbaaDoorW.PrintLast Go.Proofs.YtaiaapjlpbhlbaaDoorW.PrintMore
set_option linter.unusedVariables false
set_option linter.unusedSimpArgs false
theorem cells_len {base : Nat} {W : World} {g : Nat} {v : V} (h : Is base W g v) : v.cells.toArray.size = 152 := by
  rw [List.size_toArray]
  unfold V.cells V.tail
  simp only [List.length_append, u8s_len, h.lt, h.ln, h.lr, List.length_cons, List.length_nil]
theorem cells_one (v : V) : v.cells.toArray.all (·.oneCell') = true := by
  refine Array.all_eq_true_iff_forall_mem.2 fun x hx => ?_
  have hx' : x ∈ v.cells := by simpa using hx
  unfold V.cells V.tail u8s at hx'
  simp only [List.mem_append, List.mem_map, List.mem_cons, List.not_mem_nil, or_false] at hx'
  rcases hx' with ((⟨_, _, rfl⟩ | ⟨_, _, rfl⟩) | ⟨_, _, rfl⟩) | h
  · rfl
  · rfl
  · rfl
  · rcases h with rfl | rfl | rfl | rfl | rfl | rfl | rfl | rfl | rfl | rfl | rfl | rfl | rfl <;> rfl
set_option maxRecDepth 20000 in
theorem copy_calls (base : Nat) (g : Nat) (v : V) (W : World) (h : Is base W g v) :
    Calls Tryd.prog 70 #[.pointer (some ⟨g, 0, none⟩)] W fun e W' => ∃ gc, e = .returned (.pointer (some ⟨gc, 0, none⟩)) ∧ Is base W' gc v ∧ Below W.heap.size W W' ∧ W.heap.size ≤ gc := by
  have z := zero_run W
  have hsz : (Tryd.prog.info? 116).map (·.size) = some v.cells.toArray.size := by rw [cells_len h]; kernel_rfl
  have h0 : v0.cells.toArray.size = v.cells.toArray.size := by rw [cells_len h]; decide +kernel
  have HS := Aside0.mk hsz
  have H0 := Aside0.mk h0
  have H1 := Aside0.mk (cells_one v)
  have H := Aside0.mk h
  have HAT := Aside0.mk (show W.heap[g]? = some (.cells v.cells.toArray 116 (0, 0)) from h.at_)
  clear hsz h0 h
  generalize v0.cells.toArray = cs0 at *
  obtain ⟨cs, hcs⟩ : ∃ cs, cs = v.cells.toArray := ⟨_, rfl⟩
  rw [← hcs] at HS H0 H1 HAT
  have HC := Aside0.mk hcs
  clear hcs
  go_enter Tryd.func70, Tryd.ntmps70
  go_wp2_with (first
    | (refine wpList_load_row rfl 116 _ rfl g rfl 116 _ (0, 0) _ HAT.out Tryd.underlying116 rfl HS.out ?_)
    | (refine wpList_store_row rfl 116 _ _ rfl W.heap.size cs rfl rfl 116 cs0 (heap_alloc_new W _) HS.out H0.out H1.out ?_; rw [World.setRow_alloc_new]))
  go_ret
  have hb := H.out.base
  have hl := H.out.at_.lt
  refine ⟨W.heap.size, rfl, ⟨?_, by omega, H.out.lt, H.out.ln, H.out.lr⟩, below_alloc (Below.refl _ _) _, Nat.le_refl _⟩
  rw [← HC.out]
  exact heap_alloc_new W _
end Go.Proofs.YtaiaapjlpbhlbaaDoor.Wave
namespace Go.Proofs.YtaiaapjlpbhlbaaDoor.Ada
open Go.RowKit Go.Proofs.YtaiaapjlpbhlbaaDoorW.PrintWords Go.Proofs.YtaiaapjlpbhlbaaDoorW.PrintLast Go.Proofs.YtaiaapjlpbhlbaaDoorW.PrintMore
set_option linter.unusedVariables false
set_option linter.unusedSimpArgs false
set_option maxRecDepth 20000
theorem nil_put (x b : Int) (W : World) : Calls Tryd.prog 11 #[.pointer none, .int .u16 x, .int .u8 b] W fun e W' => e = .returned (.tuple #[]) ∧ ∃ n, W' = W.drewN n := by
  go_enter Tryd.func11, Tryd.ntmps11
  go_wp2
  go_end0
  exact ⟨rfl, 0, rfl⟩
theorem nil_clock (W : World) : Calls Tryd.prog 12 #[.pointer none] W fun e W' => e = .returned (.tuple #[]) ∧ ∃ n, W' = W.drewN n := by
  go_enter Tryd.func12, Tryd.ntmps12
  go_wp2
  first | go_end0 | ((try simp only [Exit.inBlock, Exit.then]); refine bodyPost_ret (results_none rfl _ _ _) rfl ?_)
  exact ⟨rfl, 0, rfl⟩
theorem nil_get (x : Int) (W : World) : Calls Tryd.prog 14 #[.pointer none, .int .u16 x] W fun e W' => e = .returned (.tuple #[.int .u8 0, .bool false]) ∧ ∃ n, W' = W.drewN n := by
  go_enter Tryd.func14, Tryd.ntmps14
  go_wp2
  refine bodyPost_ret (v := .tuple #[.int .u8 0, .bool false]) (by simp [results, Tryd.results14, go_sem]) rfl ⟨rfl, 0, rfl⟩
theorem nil_irq (W : World) : Calls Tryd.prog 13 #[.pointer none] W fun e W' => e = .returned (.bool false) ∧ ∃ n, W' = W.drewN n := by
  go_enter Tryd.func13, Tryd.ntmps13
  go_wp2
  go_ret
  exact ⟨rfl, 0, rfl⟩
theorem nil_upright (W : World) : Calls Tryd.prog 18 #[.pointer none] W fun e W' => e = .returned (.bool false) ∧ ∃ n, W' = W.drewN n := by
  go_enter Tryd.func18, Tryd.ntmps18
  go_wp2
  go_ret
  exact ⟨rfl, 0, rfl⟩
theorem nil_out (W : World) : Calls Tryd.prog 29 #[.pointer none] W fun e W' => e = .returned (.int .i64 0) ∧ ∃ n, W' = W.drewN n := by
  go_enter Tryd.func29, Tryd.ntmps29
  go_wp2
  go_ret
  exact ⟨rfl, 0, rfl⟩
theorem nil_drive (W : World) : Calls Tryd.prog 20 #[.pointer none] W fun e W' => e = .returned (.pointer none) ∧ ∃ n, W' = W.drewN n := by
  go_enter Tryd.func20, Tryd.ntmps20
  go_wp2
  go_ret
  exact ⟨rfl, 0, rfl⟩
theorem nil_copyA (W : World) : Calls Tryd.prog 30 #[.pointer none] W fun e W' => e = .returned (.pointer none) ∧ ∃ n, W' = W.drewN n := by
  go_enter Tryd.func30, Tryd.ntmps30
  go_wp2
  go_ret
  exact ⟨rfl, 0, rfl⟩
theorem drive_calls (base : Nat) (W : World) (p : P) (a : A) (d : Drv.D) (u : Wave.V) (h : Is base W p a d u) :
    Calls Tryd.prog 20 #[.pointer (some ⟨p.g, 0, none⟩)] W fun e W' => e = .returned (.pointer (some ⟨p.gd, 0, none⟩)) ∧ W = W' := by
  have c0 : W.cell? ⟨p.g, 0, none⟩ = some (.pointer (some ⟨p.gd, 0, none⟩)) := h.cell 0
  clear h
  go_enter Tryd.func20, Tryd.ntmps20
  go_wp2
  go_ret
  exact ⟨rfl, rfl⟩
theorem out_callsA (base : Nat) (W : World) (p : P) (a : A) (d : Drv.D) (u : Wave.V) (h : Is base W p a d u) (hu : Wave.Wf u) (hm : Wave.MS W) :
    Calls Tryd.prog 29 #[.pointer (some ⟨p.g, 0, none⟩)] W fun e W' => e = .returned (.int .i64 (Wave.outV u)) ∧ ∃ n, W' = W.drewN n := by
  have c1 : W.cell? ⟨p.g, 1, none⟩ = some (.pointer (some ⟨p.gw, 0, none⟩)) := h.cell 1
  have HO := Aside0.mk (Wave.out_calls base p.gw u W h.wv hu hm)
  generalize Wave.outV u = y at *
  clear h hu hm
  go_enter Tryd.func29, Tryd.ntmps29
  go_wp2_with fail
  refine HO.out.mono ?_
  rintro e w2 ⟨rfl, n2, rfl⟩
  go_wp2
  go_ret
  exact ⟨rfl, n2, rfl⟩
set_option maxHeartbeats 8000000 in
theorem copyA_calls (base : Nat) (W : World) (p : P) (a : A) (d : Drv.D) (u : Wave.V) (h : Is base W p a d u) (hbase : base ≤ W.heap.size) :
    Calls Tryd.prog 30 #[.pointer (some ⟨p.g, 0, none⟩)] W fun e W' => ∃ q : P, e = .returned (.pointer (some ⟨q.g, 0, none⟩)) ∧ Is base W' q a d u ∧ Below W.heap.size W W' ∧ W.heap.size ≤ q.g ∧ W.heap.size ≤ q.gd ∧ W.heap.size ≤ q.gw ∧ (∀ k, q.v.ownBlock = some k → W.heap.size ≤ k) := by
  have H := Aside0.mk h
  have HBA := Aside0.mk hbase
  have k0 : W.cell? ⟨p.g, 0, none⟩ = some (.pointer (some ⟨p.gd, 0, none⟩)) := h.cell 0
  have k1 : W.cell? ⟨p.g, 1, none⟩ = some (.pointer (some ⟨p.gw, 0, none⟩)) := h.cell 1
  have k2 : W.cell? ⟨p.g, 2, none⟩ = some (.int .u16 a.from_) := h.cell 2
  have k3 : W.cell? ⟨p.g, 3, none⟩ = some (.int .u16 a.count) := h.cell 3
  have k4 : W.cell? ⟨p.g, 4, none⟩ = some (.bool a.on) := h.cell 4
  have k5 : W.cell? ⟨p.g, 5, none⟩ = some (.bool a.rep) := h.cell 5
  have k6 : W.cell? ⟨p.g, 6, none⟩ = some (.bool a.exp) := h.cell 6
  have k7 : W.cell? ⟨p.g, 7, none⟩ = some (.int .u8 a.opn) := h.cell 7
  have k8 : W.cell? ⟨p.g, 8, none⟩ = some (.int .u8 a.ctl) := h.cell 8
  have k9 : W.cell? ⟨p.g, 9, none⟩ = some (.int .u8 a.inn) := h.cell 9
  have k10 : W.cell? ⟨p.g, 10, none⟩ = some (.int .u8 a.out) := h.cell 10
  have k11 : W.cell? ⟨p.g, 11, none⟩ = some (.int .u8 a.wire) := h.cell 11
  have k12 : W.cell? ⟨p.g, 12, none⟩ = some (.bool a.asks) := h.cell 12
  have k13 : W.cell? ⟨p.g, 13, none⟩ = some (.bool a.found) := h.cell 13
  have k14 : W.cell? ⟨p.g, 14, none⟩ = some (.int .u16 a.sum) := h.cell 14
  have k15 : W.cell? ⟨p.g, 15, none⟩ = some (.int .i64 a.tail) := h.cell 15
  clear h hbase
  go_enter Tryd.func30, Tryd.ntmps30
  go_wp2
  have HN := Aside0.mk (show Drive.At (W.alloc (.cells (cells p.gd p.gw a) 78)) W.heap.size 78 (cells p.gd p.gw a) from heap_alloc_new W _)
  have HP := Aside0.mk (H.out.below (below_alloc (Below.refl _ _) (.cells (cells p.gd p.gw a) 78)))
  have HB := Aside0.mk (below_alloc (Below.refl W.heap.size W) (.cells (cells p.gd p.gw a) 78))
  clear k0 k1 k2 k3 k4 k5 k6 k7 k8 k9 k10 k11 k12 k13 k14 k15
  have SZ := Aside0.mk (show (W.alloc (.cells (cells p.gd p.gw a) 78)).heap.size = W.heap.size + 1 by show (W.heap.push _).size = _; rw [Array.size_push])
  unfold cells at HN HP HB SZ
  generalize W.alloc (.cells #[.pointer (some ⟨p.gd, 0, none⟩), .pointer (some ⟨p.gw, 0, none⟩), .int .u16 a.from_, .int .u16 a.count, .bool a.on, .bool a.rep, .bool a.exp, .int .u8 a.opn, .int .u8 a.ctl, .int .u8 a.inn, .int .u8 a.out, .int .u8 a.wire, .bool a.asks, .bool a.found, .int .u16 a.sum, .int .i64 a.tail] 78) = w1 at *
  have HDC := Aside0.mk (Drive.copy_calls base p.gd p.v d w1.drew HP.out.drew.dr (by show base ≤ w1.heap.size; have := SZ.out; have := HBA.out; omega))
  have HWC := Aside0.mk (fun (W1 : World) (h1 : Wave.Is base W1 p.gw u) => Wave.copy_calls base p.gw u W1 h1)
  refine start_ (n := 14) (S := fun w' => w'.cell? ⟨p.g, 0, none⟩ = some (.pointer (some ⟨p.gd, 0, none⟩)) ∧ w'.cell? ⟨p.g, 1, none⟩ = some (.pointer (some ⟨p.gw, 0, none⟩))) (ds := [11, 13]) #[false, false, false, false, false, false, false, false, false, false, false, false, false, false] (by kernel_rfl) rfl rfl ⟨HP.out.drew.cell 0, HP.out.drew.cell 1⟩ (fun hHeld => ?_)
  refine pure_ (i := 0) (N := some 9) (v := ?_) (a' := ?_) #[true, false, false, false, false, false, false, false, false, false, false, false, false, false] rfl rfl (by kernel_rfl) (fun _ _ _ h => h) (Or.inl ⟨by rfl, ?_⟩) ?_ ?_
  rotate_left
  · intro w'
    go_simp
    with_reducible rfl
  rotate_left
  · simp only [Act.put, List.setIfInBounds_toArray, List.set_cons_zero, List.set_cons_succ, i64_w, i32_w]
    rfl
  refine pure_ (i := 1) (N := some 10) (v := ?_) (a' := ?_) #[true, true, false, false, false, false, false, false, false, false, false, false, false, false] rfl rfl (by kernel_rfl) (fun _ _ _ h => h) (Or.inl ⟨by rfl, ?_⟩) ?_ ?_
  rotate_left
  · intro w'
    go_simp
    with_reducible rfl
  rotate_left
  · simp only [Act.put, List.setIfInBounds_toArray, List.set_cons_zero, List.set_cons_succ, i64_w, i32_w]
    rfl
  refine pure_ (i := 2) (N := some 11) (v := ?_) (a' := ?_) #[true, true, true, false, false, false, false, false, false, false, false, false, false, false] rfl rfl (by kernel_rfl) (fun _ _ _ h => h) (Or.inl ⟨by rfl, ?_⟩) ?_ ?_
  rotate_left
  · intro w'
    go_simp
    with_reducible rfl
  rotate_left
  · simp only [Act.put, List.setIfInBounds_toArray, List.set_cons_zero, List.set_cons_succ, i64_w, i32_w]
    rfl
  refine pure_ (i := 5) (N := some 14) (v := ?_) (a' := ?_) #[true, true, true, false, false, true, false, false, false, false, false, false, false, false] rfl rfl (by kernel_rfl) (fun _ _ _ h => h) (Or.inl ⟨by rfl, ?_⟩) ?_ ?_
  rotate_left
  · intro w'
    go_simp
    with_reducible rfl
  rotate_left
  · simp only [Act.put, List.setIfInBounds_toArray, List.set_cons_zero, List.set_cons_succ, i64_w, i32_w]
    rfl
  refine pure_ (i := 6) (N := some 15) (v := ?_) (a' := ?_) #[true, true, true, false, false, true, true, false, false, false, false, false, false, false] rfl rfl (by kernel_rfl) (fun _ _ _ h => h) (Or.inl ⟨by rfl, ?_⟩) ?_ ?_
  rotate_left
  · intro w'
    go_simp
    with_reducible rfl
  rotate_left
  · simp only [Act.put, List.setIfInBounds_toArray, List.set_cons_zero, List.set_cons_succ, i64_w, i32_w]
    rfl
  refine pure_ (i := 7) (N := some 16) (v := ?_) (a' := ?_) #[true, true, true, false, false, true, true, true, false, false, false, false, false, false] rfl rfl (by kernel_rfl) (fun _ _ _ h => h) (Or.inl ⟨by rfl, ?_⟩) ?_ ?_
  rotate_left
  · intro w'
    go_simp
    with_reducible rfl
  rotate_left
  · simp only [Act.put, List.setIfInBounds_toArray, List.set_cons_zero, List.set_cons_succ, i64_w, i32_w]
    rfl
  refine take_ (i := 3) (N := some 12) (v := ?_) (a' := ?_) #[true, true, true, true, false, true, true, true, false, false, false, false, false, false] rfl rfl (by kernel_rfl) (fun _ _ _ h => h) (Or.inl ⟨by rfl, ?_⟩) hHeld ?_ ?_
  rotate_left
  · rintro w' ⟨s0, s1⟩
    go_simp
    with_reducible rfl
  rotate_left
  · simp only [Act.put, List.setIfInBounds_toArray, List.set_cons_zero, List.set_cons_succ, i64_w, i32_w]
    rfl
  refine take_ (i := 8) (N := some 17) (v := ?_) (a' := ?_) #[true, true, true, true, false, true, true, true, true, false, false, false, false, false] rfl rfl (by kernel_rfl) (fun _ _ _ h => h) (Or.inl ⟨by rfl, ?_⟩) hHeld ?_ ?_
  rotate_left
  · rintro w' ⟨s0, s1⟩
    go_simp
    with_reducible rfl
  rotate_left
  · simp only [Act.put, List.setIfInBounds_toArray, List.set_cons_zero, List.set_cons_succ, i64_w, i32_w]
    rfl
  refine one_ (i := 4) (N := some 13) #[true, true, true, true, true, true, true, true, true, false, false, false, false, false] rfl rfl (by kernel_rfl) (by decide) (fun K hK => ?_)
  refine goes_ Tryd.func69 (by kernel_rfl) rfl #[.pointer (some ⟨p.gd, 0, none⟩)] (by rfl) rfl rfl (by simp only [List.map_toArray, List.map_cons, List.map_nil]; rfl) ?_
  with_reducible refine (HDC.out).mono ?_
  rintro e w6 ⟨g1, v1, rfl, hi, hb, hg, hv⟩
  refine ⟨_, rfl, ?_⟩
  have HP6 := Aside0.mk (HP.out.drew.below hb); have HD6 := Aside0.mk hi; have HN6 := Aside0.mk (HN.out.drew.below hb); have HB6 := Aside0.mk (HB.out.drew.trans (hb.mono HB.out.size)); have G6 := Aside0.mk (And.intro hg hv); have S6 := Aside0.mk (show w1.heap.size ≤ w6.heap.size from hb.size); clear hi hb hg hv
  refine hK.out _ _ ⟨HP6.out.cell 0, HP6.out.cell 1⟩ (fun hHeld => ?_)
  clear hK K
  refine norm_ (a' := ?_) ?_ ?_
  rotate_left
  · show Act.put _ (some 13) _ = _
    simp only [Act.put, List.setIfInBounds_toArray, List.set_cons_zero, List.set_cons_succ, i64_w, i32_w]
    rfl
  refine one_ (i := 9) (N := some 18) #[true, true, true, true, true, true, true, true, true, true, false, false, false, false] rfl rfl (by kernel_rfl) (by decide) (fun K hK => ?_)
  refine goes_ Tryd.func70 (by kernel_rfl) rfl #[.pointer (some ⟨p.gw, 0, none⟩)] (by rfl) rfl rfl (by simp only [List.map_toArray, List.map_cons, List.map_nil]; rfl) ?_
  with_reducible refine (HWC.out _ HP6.out.wv).mono ?_
  rintro e w7 ⟨gc, rfl, hi, hb, hg⟩
  refine ⟨_, rfl, ?_⟩
  have HD7 := Aside0.mk (HD6.out.below hb); have HW7 := Aside0.mk hi; have HN7 := Aside0.mk (HN6.out.below hb); have HB7 := Aside0.mk (HB6.out.trans (hb.mono HB6.out.size)); have G7 := Aside0.mk hg; have S7 := Aside0.mk hb.size; have HP7 := Aside0.mk (HP6.out.below hb); clear hi hb hg
  refine hK.out _ _ ⟨HP7.out.cell 0, HP7.out.cell 1⟩ (fun hHeld => ?_)
  clear hK K
  refine norm_ (a' := ?_) ?_ ?_
  rotate_left
  · show Act.put _ (some 18) _ = _
    simp only [Act.put, List.setIfInBounds_toArray, List.set_cons_zero, List.set_cons_succ, i64_w, i32_w]
    rfl
  refine pure_ (i := 10) (N := some 19) (v := ?_) (a' := ?_) #[true, true, true, true, true, true, true, true, true, true, true, false, false, false] rfl rfl (by kernel_rfl) (fun _ _ _ h => h) (Or.inl ⟨by rfl, ?_⟩) ?_ ?_
  rotate_left
  · intro w'
    go_simp
    with_reducible rfl
  rotate_left
  · simp only [Act.put, List.setIfInBounds_toArray, List.set_cons_zero, List.set_cons_succ, i64_w, i32_w]
    rfl
  refine last_ (i := 11) (N := none) #[true, true, true, true, true, true, true, true, true, true, true, true, false, false] rfl rfl (by kernel_rfl) (by decide) (fun K hK => ?_)
  have x0 : w7.cell? ⟨W.heap.size, 0, none⟩ = some (.pointer (some ⟨p.gd, 0, none⟩)) := HN7.out.cell 0; have x1 : w7.cell? ⟨W.heap.size, 1, none⟩ = some (.pointer (some ⟨p.gw, 0, none⟩)) := HN7.out.cell 1; have f0 := HN7.out.frozen 0; have f1 := HN7.out.frozen 1
  refine skip_ (w1 := ?_) (by rfl) rfl ?_ ?_
  rotate_left
  · go_simp
    rfl
  refine hK.out _ _ ?_
  clear hK K
  refine pure_ (i := 12) (N := some 20) (v := ?_) (a' := ?_) #[true, true, true, true, true, true, true, true, true, true, true, true, true, false] rfl rfl (by kernel_rfl) (fun _ _ _ h => h) (Or.inl ⟨by rfl, ?_⟩) ?_ ?_
  rotate_left
  · intro w'
    go_simp
    with_reducible rfl
  rotate_left
  · simp only [Act.put, List.setIfInBounds_toArray, List.set_cons_zero, List.set_cons_succ, i64_w, i32_w]
    rfl
  refine last_ (i := 13) (N := none) #[true, true, true, true, true, true, true, true, true, true, true, true, true, true] rfl rfl (by kernel_rfl) (by decide) (fun K hK => ?_)
  refine skip_ (w1 := ?_) (by rfl) rfl ?_ ?_
  rotate_left
  · go_simp
    rfl
  refine hK.out _ _ ?_
  clear hK K
  refine done_ (by kernel_rfl) ?_
  go_wp2
  go_ret
  have sz := SZ.out
  have g6 : w1.heap.size ≤ g1 := G6.out.1
  have g7 : w6.heap.size ≤ gc := G7.out
  have s6 := S6.out
  have e1 : base ≤ W.heap.size := HBA.out
  have l6 := HD6.out.1.lt
  have hown : ∀ k, v1.ownBlock = some k → W.heap.size ≤ k ∧ k ≠ W.heap.size ∧ k ≠ gc := fun k hk => by
    have h1 : w1.heap.size ≤ k := G6.out.2 k hk
    have h2 := Kd.R_lt HD6.out.2.2.1 k hk
    exact ⟨by omega, by omega, by omega⟩
  have n1 : g1 ≠ W.heap.size := by omega
  have n2 : gc ≠ W.heap.size := by omega
  have A8 := HN7.out.set_ 0 (.pointer (some ⟨g1, 0, none⟩))
  have A9 := A8.set_ 1 (.pointer (some ⟨gc, 0, none⟩))
  have D8 : Drive.Is base (w7.setCell ⟨W.heap.size, 0, none⟩ (.pointer (some ⟨g1, 0, none⟩))) g1 v1 d := ⟨HD7.out.1.far n1 _, HD7.out.2.1, Kd.R_set HD7.out.2.2.1 HN7.out (by decide) 0 _, HD7.out.2.2.2⟩
  have D9 : Drive.Is base ((w7.setCell ⟨W.heap.size, 0, none⟩ (.pointer (some ⟨g1, 0, none⟩))).setCell ⟨W.heap.size, 1, none⟩ (.pointer (some ⟨gc, 0, none⟩))) g1 v1 d := ⟨D8.1.far n1 _, D8.2.1, Kd.R_set D8.2.2.1 A8 (by decide) 1 _, D8.2.2.2⟩
  have W9 : Wave.Is base ((w7.setCell ⟨W.heap.size, 0, none⟩ (.pointer (some ⟨g1, 0, none⟩))).setCell ⟨W.heap.size, 1, none⟩ (.pointer (some ⟨gc, 0, none⟩))) gc u := ⟨(HW7.out.at_.far n2 _).far n2 _, HW7.out.base, HW7.out.lt, HW7.out.ln, HW7.out.lr⟩
  have B9 := Below.setCell (Below.setCell HB7.out (p := ⟨W.heap.size, 0, none⟩) (Nat.le_refl _) (.pointer (some ⟨g1, 0, none⟩))) (p := ⟨W.heap.size, 1, none⟩) (Nat.le_refl _) (.pointer (some ⟨gc, 0, none⟩))
  exact ⟨⟨W.heap.size, g1, gc, v1⟩, rfl, ⟨A9, e1, D9, W9, Ne.symm n1, Ne.symm n2, by show g1 ≠ gc; omega, fun k hk => (hown k hk).2⟩, B9, Nat.le_refl _, by show W.heap.size ≤ g1; omega, by show W.heap.size ≤ gc; omega, fun k hk => (hown k hk).1⟩
end Go.Proofs.YtaiaapjlpbhlbaaDoor.Ada

namespace Go.Proofs.YtaiaapjlpbhlbaaDoor.Drive
open Go.RowKit Go.Proofs.YtaiaapjlpbhlbaaDoorW.PrintWords Go.Proofs.YtaiaapjlpbhlbaaDoorW.PrintLast Go.Proofs.YtaiaapjlpbhlbaaDoorW.PrintMore
theorem which_range {n t : Int} (hn : 1 ≤ n) (h : Drv.passes n t = true) : 0 ≤ Drv.which n t ∧ Drv.which n t < n := by
  unfold Drv.passes at h
  unfold Drv.which
  have h' := of_decide_eq_true h
  have h1 := Int.emod_lt_of_pos t (show 0 < 4000 + 149 * n by omega)
  generalize t % (4000 + 149 * n) = m at *
  obtain ⟨a, b⟩ := h'
  omega
theorem Runs.lay {d : Drv.D} {p : List Int} {t : Int} (h : Runs d p t) (b : Int) : Runs (laid d b) (p.set d.passed.toNat b) t := by
  obtain ⟨hm, hs, hn, h1, h2, h3⟩ := h
  unfold laid
  refine ⟨hm, by show d.side.set _ _ = _; rw [hs], by intro e; have := congrArg List.length e; rw [List.length_set] at this; exact hn (List.length_eq_zero_iff.1 (by simpa using this)), ?_, ?_, ?_⟩
  · show d.ready = _
    rw [h1, List.length_set]
  · show d.left = _
    rw [h2, List.length_set]
  · show d.pos = _
    rw [h3, List.length_set]
end Go.Proofs.YtaiaapjlpbhlbaaDoor.Drive
namespace Go.Proofs.YtaiaapjlpbhlbaaDoor.Ada
open Go.RowKit Go.Proofs.YtaiaapjlpbhlbaaDoorW.PrintWords Go.Proofs.YtaiaapjlpbhlbaaDoorW.PrintLast Go.Proofs.YtaiaapjlpbhlbaaDoorW.PrintMore
set_option linter.unusedVariables false
set_option linter.unusedSimpArgs false
set_option maxRecDepth 20000
structure Ok (a : A) : Prop where
  from_ : 0 ≤ a.from_ ∧ a.from_ < 65536
  count : 0 ≤ a.count ∧ a.count < 65536
  ctl : U8 a.ctl
  out : U8 a.out
  sum : 0 ≤ a.sum ∧ a.sum < 65536
  tail : 0 ≤ a.tail ∧ a.tail ≤ 2
theorem tick_ok {a : A} (h : Ok a) : Ok (tick a) := by
  have hc := h.count
  unfold tick
  split
  · exact h
  · split
    · exact ⟨h.from_, by dsimp only; omega, h.ctl, h.out, h.sum, h.tail⟩
    · exact ⟨h.from_, h.from_, h.ctl, h.out, h.sum, h.tail⟩
theorem read_ok {a : A} (h : Ok a) (b : Int) : Ok (readA a b) ∧ (readA a b).ctl = a.ctl := by
  unfold readA
  split
  · exact ⟨h, rfl⟩
  · split
    · exact ⟨⟨h.from_, h.count, h.ctl, h.out, stp_range _ _ h.sum, h.tail⟩, rfl⟩
    · split
      · exact ⟨h, rfl⟩
      · exact ⟨⟨h.from_, h.count, h.ctl, h.out, stp_range _ _ ⟨by decide, by decide⟩, h.tail⟩, rfl⟩
theorem next_ok {a : A} (h : Ok a) : Ok (nextA a) ∧ (nextA a).ctl = a.ctl := by
  unfold nextA
  split
  · exact ⟨h, rfl⟩
  · split
    · exact ⟨⟨h.from_, h.count, h.ctl, h.out, stp_range _ _ h.sum, ⟨by dsimp only; decide, by dsimp only; decide⟩⟩, rfl⟩
    · split
      · exact ⟨⟨h.from_, h.count, h.ctl, h.out, stp_range _ _ (stp_range _ _ h.sum), ⟨by dsimp only; decide, by dsimp only; decide⟩⟩, rfl⟩
      · split
        · exact ⟨⟨h.from_, h.count, h.ctl, h.out, h.sum, ⟨by dsimp only; decide, by dsimp only; decide⟩⟩, rfl⟩
        · exact ⟨h, rfl⟩
theorem pass_ok {a : A} (h : Ok a) (d : Drv.D) : Ok (passA a d) ∧ (passA a d).ctl = a.ctl := by
  unfold passA
  split
  · exact ⟨h, rfl⟩
  · split
    · exact read_ok h _
    · have n := next_ok h
      exact ⟨⟨n.1.from_, n.1.count, n.1.ctl, n.1.out, n.1.sum, n.1.tail⟩, n.2⟩
/-- an adapter whose drive runs over so many bytes -/
structure Good (base : Nat) (W : World) (p : P) (n : Nat) (c : Int) (a : A) (d : Drv.D) (u : Wave.V) (l : List Int) (t : Int) : Prop where
  is_ : Is base W p a d u
  ok : Ok a
  ctl : a.ctl = c
  runs : Drive.Runs d l t
  len : l.length = n
  byt : ∀ j, U8 (rd l j)
  grd : d.guarded = false
  okv : Wave.Okv u
theorem clock_any (base : Nat) (W : World) (p : P) (n : Nat) (c : Int) (a : A) (d : Drv.D) (u : Wave.V) (l : List Int) (t : Int) (h : Good base W p n c a d u l t) (hn : n ≤ 65536) (hts : Wave.TS W) (hgb : 1 < base) :
    Calls Tryd.prog 12 #[.pointer (some ⟨p.g, 0, none⟩)] W fun e W' => e = .returned (.tuple #[]) ∧ ∃ a' d' u' l', Good base W' p n c a' d' u' l' (t + 1) ∧ Turn base W W' (Foot p) := by
  have nx := h.runs.next
  obtain ⟨r1, r2, r3, r4, r5⟩ := nx
  have hl := h.len
  have fit := h.runs.fit (by omega)
  have tk := tick_keeps a
  by_cases hp : Drv.passes l.length t = true
  · have hne : l ≠ [] := h.runs.2.2.1
    have hlen : 1 ≤ l.length := by
      rcases Nat.eq_zero_or_pos l.length with e | e
      · exact absurd (List.length_eq_zero_iff.1 e) hne
      · exact e
    have wr := Drive.which_range (n := (l.length : Int)) (by omega) hp
    rw [if_pos hp] at r3
    have hside : (Drv.clk d).1.side = l := r1.2.1
    have hgd : (Drv.clk d).1.guarded = false := r4.trans h.grd
    have hpr : 0 ≤ (Drv.clk d).1.passed ∧ (Drv.clk d).1.passed < (Drv.clk d).1.side.length := by rw [hside, r3]; exact wr
    have hg8 : U8 (Drive.getI (Drv.clk d).1) := by
      unfold Drive.getI
      rw [if_neg (by omega), hside]
      exact h.byt _
    refine (clock_passes base W p a d u h.is_ h.ok.count h.ok.ctl h.ok.out h.ok.sum h.ok.tail h.okv hts hgb fit (r2.trans hp) hpr hgd hg8).mono ?_
    rintro e W' ⟨rfl, hi, ht⟩
    have po := pass_ok (tick_ok h.ok) (Drv.clk d).1
    have hcl : (passA (tick a) (Drv.clk d).1).ctl = c := (po.2.trans tk.1).trans h.ctl
    by_cases hw : bit (tick a).ctl 2 = false ∧ bit (tick a).ctl 4 = false
    · have hD : passD (tick a) (Drv.clk d).1 = Drive.laid (Drv.clk d).1 (nextB (tick a)) := by
        unfold passD
        rw [if_neg (by rw [hw.1]; decide), if_neg (by rw [hw.2]; decide)]
      rw [hD] at hi
      have hb := nextB_u8 (a := tick a) (by rw [tk.2.1]; exact h.ok.out) (by rw [tk.2.2.1]; exact h.ok.sum)
      exact ⟨rfl, _, _, _, _, ⟨hi, po.1, hcl, Drive.Runs.lay r1 (nextB (tick a)), by rw [List.length_set]; exact hl, fun j => Wave.rd_set_P (fun x => U8 x) l _ _ hb h.byt j, hgd, Wave.clockV_ok h.okv⟩, ht⟩
    · have hD : passD (tick a) (Drv.clk d).1 = (Drv.clk d).1 := by
        unfold passD
        split
        · rfl
        · split
          · rfl
          · rename_i x1 x2
            exact absurd ⟨by simpa using x1, by simpa using x2⟩ hw
      rw [hD] at hi
      exact ⟨rfl, _, _, _, _, ⟨hi, po.1, hcl, r1, hl, h.byt, hgd, Wave.clockV_ok h.okv⟩, ht⟩
  · have hp' : Drv.passes l.length t = false := by simpa using hp
    refine (clock_none base W p a d u h.is_ h.ok.count h.okv hts hgb fit (r2.trans hp')).mono ?_
    rintro e W' ⟨rfl, hi, ht⟩
    exact ⟨rfl, _, _, _, _, ⟨hi, tick_ok h.ok, tk.1.trans h.ctl, r1, hl, h.byt, r4.trans h.grd, Wave.clockV_ok h.okv⟩, ht⟩
set_option maxHeartbeats 8000000 in
/-- cycles, till a byte passes: whatever it answers, the drive runs on -/
theorem passes_calls (base : Nat) (W : World) (p : P) (n : Nat) (c : Int) (a : A) (d : Drv.D) (u : Wave.V) (l : List Int) (t : Int) (h : Good base W p n c a d u l t) (hn : n ≤ 65536) (hts : Wave.TS W) (hgb : 1 < base) :
    Calls Tryd.prog 32 #[.pointer (some ⟨p.g, 0, none⟩)] W fun e W' => ∃ (r : Bool) (a' : A) (d' : Drv.D) (u' : Wave.V) (l' : List Int) (t' : Int), e = .returned (.bool r) ∧ Good base W' p n c a' d' u' l' t' ∧ Turn base W W' (Foot p) := by
  have H := Aside0.mk h
  have HN := Aside0.mk hn
  have HTS := Aside0.mk (fun (W1 : World) (hb : Below base W W1) => hts.below hb hgb)
  have HG := Aside0.mk hgb
  clear h hn hts hgb
  go_enter Tryd.func32, Tryd.ntmps32
  go_wp2_with fail
  go_loopg [5] 4150 (fun kq v5 w' => ∃ (i : Int) (a : A) (d : Drv.D) (u : Wave.V) (l : List Int) (t : Int), v5 = .int .i64 i ∧ Aside0 (Good base w' p n c a d u l t) ∧ Aside0 (i + kq = 4150 ∧ 0 ≤ i) ∧ Aside0 (Turn base W w' (Foot p)))
  case atStart => exact ⟨0, a, d, u, l, t, rfl, H, ⟨by decide, by decide⟩, ⟨Drive.Turn.refl _ _ _⟩⟩
  case round =>
    clear H
    obtain ⟨i, a, d, u, l, t, rfl, HR, HI, HT⟩ := hrel
    by_cases hlt : i < 4150
    · have d1 : decide (i < 4150) = true := decide_eq_true hlt
      have e1 : wrap64 (i + 1) = i + 1 := Wave.wr64 (by have := HI.out; omega) (by omega)
      have HL := Aside0.mk hlt
      have HDR := Aside0.mk (drive_calls base wr p a d u HR.out.is_)
      have HAT := Aside0.mk (Drive.at_calls base p.gd p.v d wr HR.out.is_.dr)
      have HRY := Aside0.mk (Drive.ready_calls base p.gd p.v d wr HR.out.is_.dr)
      have HCL := Aside0.mk (clock_any base wr p n c a d u l t HR.out HN.out (HTS.out _ HT.out.below) HG.out)
      generalize Drive.atI d = x0 at *
      generalize Drive.readyB d = r0 at *
      clear hlt
      go_wp2_with fail
      refine HDR.out.mono ?_
      rintro e w2 ⟨rfl, rfl⟩
      go_wp2_with fail
      refine HAT.out.mono ?_
      rintro e w2 ⟨rfl, rfl⟩
      go_wp2_with fail
      refine HDR.out.mono ?_
      rintro e w2 ⟨rfl, rfl⟩
      go_wp2_with fail
      refine HRY.out.mono ?_
      rintro e w2 ⟨rfl, rfl⟩
      go_wp2_with fail
      refine HCL.out.mono ?_
      rintro e w3 ⟨rfl, a', d', u', l', hg, ht⟩
      have HG3 := Aside0.mk hg; have HT3 := Aside0.mk (HT.out.trans ht); clear hg ht
      cases r0
      · go_wp2
        go_roundg (gk - 1)
        case measure => have := HI.out; have := HL.out; omega
        case rel => exact ⟨i + 1, a', d', u', l', t + 1, by first | rfl | (congr 1), HG3, ⟨by have := HI.out; have := HL.out; omega, by have := HI.out; omega⟩, HT3⟩
      · have HDR3 := Aside0.mk (drive_calls base w3 p a' d' u' HG3.out.is_)
        have HAT3 := Aside0.mk (Drive.at_calls base p.gd p.v d' w3 HG3.out.is_.dr)
        have HRY3 := Aside0.mk (Drive.ready_calls base p.gd p.v d' w3 HG3.out.is_.dr)
        generalize Drive.atI d' = x1 at *
        generalize Drive.readyB d' = r1 at *
        go_wp2_with fail
        refine HDR3.out.mono ?_
        rintro e w4 ⟨rfl, rfl⟩
        go_wp2_with fail
        refine HAT3.out.mono ?_
        rintro e w4 ⟨rfl, rfl⟩
        by_cases hx : x1 = x0
        · have t1 : (x1 != x0) = false := by rw [hx]; simp
          clear hx
          go_wp2_with fail
          refine HDR3.out.mono ?_
          rintro e w4 ⟨rfl, rfl⟩
          go_wp2_with fail
          refine HRY3.out.mono ?_
          rintro e w4 ⟨rfl, rfl⟩
          cases r1
          · go_wp2
            go_ret
            exact ⟨true, a', d', u', l', t + 1, rfl, HG3.out, HT3.out⟩
          · go_wp2
            go_roundg (gk - 1)
            case measure => have := HI.out; have := HL.out; omega
            case rel => exact ⟨i + 1, a', d', u', l', t + 1, by first | rfl | (congr 1), HG3, ⟨by have := HI.out; have := HL.out; omega, by have := HI.out; omega⟩, HT3⟩
        · have t1 : (x1 != x0) = true := by simpa using hx
          clear hx
          go_wp2
          go_ret
          exact ⟨true, a', d', u', l', t + 1, rfl, HG3.out, HT3.out⟩
    · have d1 : decide (i < 4150) = false := decide_eq_false hlt
      clear hlt
      go_wp2
      go_ret
      exact ⟨false, a, d, u, l, t, rfl, HR.out, HT.out⟩
theorem over {B base : Nat} {A C D : World} {S : Nat → Prop} (hb : Below B A C) (ht : Drive.Turn base C D S) (hS : ∀ i, S i → B ≤ i) (hB : B ≤ A.heap.size) : Below B A D :=
  ⟨ht.below.os.trans hb.os, ht.below.tape.trans hb.tape, ht.below.output.trans hb.output, Nat.le_trans hb.size ht.below.size, fun k hk => by
    rw [ht.kept k (by have := hb.size; omega) (fun hs => by have := hS k hs; omega)]; exact hb.block k hk⟩
theorem Is.after_insert {base : Nat} {W W1 : World} {p : P} {a : A} {d d' : Drv.D} {u : Wave.V} {v1 : Value} (h : Is base W p a d u) (hw : Drive.Is base W1 p.gd v1 d') (ht : Drive.Turn base W W1 (fun i => i = p.gd)) (hv : ∀ k, v1.ownBlock = some k → W.heap.size ≤ k) : Is base W1 ⟨p.g, p.gd, p.gw, v1⟩ a d' u :=
  ⟨(ht.kept p.g h.at_.lt (fun e => h.ne1 e)).trans h.at_, h.bs, hw, ⟨(ht.kept p.gw h.wv.at_.lt (fun e => h.ne3 e.symm)).trans h.wv.at_, h.wv.base, h.wv.lt, h.wv.ln, h.wv.lr⟩, h.ne1, h.ne2, h.ne3, fun k hk => ⟨fun e => by have h1 := hv k hk; have h2 := h.at_.lt; change k = p.g at e; omega, fun e => by have h1 := hv k hk; have h2 := h.wv.at_.lt; change k = p.gw at e; omega⟩⟩
def aI : A := ⟨0, 0, false, false, false, 1, 0, 0, 0, 0, false, false, 32768, 0⟩
set_option maxHeartbeats 4000000 in
theorem open_calls (base : Nat) (W : World) (hbase : base ≤ W.heap.size) (A0 : Option Addr) (c : Nat) (l : List Int) (hC : (Kd.int .u8).C W A0 l.length l) (hc : l.length ≤ c) (hl0 : 0 < l.length) (hl1 : l.length ≤ 65536) :
    Calls Tryd.prog 31 #[.slice A0 l.length c] W fun e W' => ∃ p : P, e = .returned (.pointer (some ⟨p.g, 0, none⟩)) ∧ Is base W' p aI (Drive.back { d0 with side := l }) Wave.v0 ∧ Below W.heap.size W W' ∧ W.heap.size ≤ p.g ∧ W.heap.size ≤ p.gd ∧ W.heap.size ≤ p.gw ∧ (∀ k, p.v.ownBlock = some k → W.heap.size ≤ k) := by
  have HC := Aside0.mk hC
  have HL := Aside0.mk (And.intro hc (And.intro hl0 hl1))
  have HB := Aside0.mk hbase
  clear hC hc hl0 hl1 hbase
  generalize hll : l.length = ll at *
  have HLL := Aside0.mk hll
  clear hll
  go_enter Tryd.func31, Tryd.ntmps31
  go_wp2_with fail
  refine (newA_calls base W HB.out).mono ?_
  rintro e w1 ⟨p, rfl, hi, hb, g1, g2, g3, hv⟩
  have H1 := Aside0.mk hi; have B1 := Aside0.mk hb; have G1 := Aside0.mk (And.intro g1 (And.intro g2 g3)); clear hi hb g1 g2 g3 hv
  have HDR := Aside0.mk (drive_calls base w1 p a0 d0 Wave.v0 H1.out)
  have HIN := Aside0.mk (show Calls Tryd.prog 21 #[.pointer (some ⟨p.gd, 0, none⟩), .slice A0 ll c] w1 fun e W' => e = .returned (.bool true) ∧ ∃ v1 : Value, Drive.Is base W' p.gd v1 (Drive.back { d0 with side := l }) ∧ (∀ k, v1.ownBlock = some k → w1.heap.size ≤ k) ∧ Drive.Turn base w1 W' (fun i => i = p.gd) from by
    have h := HLL.out
    subst h
    exact Drive.insert_yes base p.gd p.v d0 A0 c l w1 H1.out.dr rfl HL.out.2.1 HL.out.2.2 HL.out.1 (Kd.C_below HC.out B1.out) (Nat.le_trans HB.out B1.out.size))
  go_wp2_with fail
  refine HDR.out.mono ?_
  rintro e w2 ⟨rfl, rfl⟩
  go_wp2_with fail
  refine HIN.out.mono ?_
  rintro e w2 ⟨rfl, v1, hi, hv, ht⟩
  have H2 := Aside0.mk (H1.out.after_insert hi ht hv); have HV := Aside0.mk hv
  have B2 := Aside0.mk (over B1.out ht (fun i e => by change i = p.gd at e; rw [e]; exact G1.out.2.1) (Nat.le_refl _))
  have S1 := Aside0.mk B1.out.size
  clear hi hv ht
  go_wp2_with fail
  refine (put_open base w2 ⟨p.g, p.gd, p.gw, v1⟩ a0 _ Wave.v0 H2.out 1 ⟨by decide, by decide⟩).mono ?_
  rintro e w3 ⟨rfl, hi, ht⟩
  have H3 := Aside0.mk (show Is base w3 ⟨p.g, p.gd, p.gw, v1⟩ aI (Drive.back { d0 with side := l }) Wave.v0 from hi)
  have B3 := Aside0.mk (over B2.out ht (fun i e => by
    rcases e with e | e | e | e
    · change i = p.g at e; rw [e]; exact G1.out.1
    · change i = p.gd at e; rw [e]; exact G1.out.2.1
    · change i = p.gw at e; rw [e]; exact G1.out.2.2
    · exact Nat.le_trans S1.out (HV.out i e)) (Nat.le_refl _))
  clear hi ht
  go_wp2
  go_ret
  exact ⟨⟨p.g, p.gd, p.gw, v1⟩, rfl, H3.out, B3.out, G1.out.1, G1.out.2.1, G1.out.2.2, fun k hk => Nat.le_trans S1.out (HV.out k hk)⟩
end Go.Proofs.YtaiaapjlpbhlbaaDoor.Ada

namespace Go.Proofs.YtaiaapjlpbhlbaaDoor.PureN
open Go.RowKit Go.Proofs.YtaiaapjlpbhlbaaDoor.PAdapterNil Go.Proofs.YtaiaapjlpbhlbaaDoor.U Go.Proofs.YtaiaapjlpbhlbaaDoorW.PrintWords Go.Proofs.YtaiaapjlpbhlbaaDoorW.PrintLast Go.Proofs.YtaiaapjlpbhlbaaDoorW.PrintMore
set_option linter.unusedVariables false
set_option linter.unusedSimpArgs false
/-! ### kotatsuref01_Cut -/
theorem cut_l0 (l : List Int) (m : Nat) (hm : m < 100000) (hl : l.length ≤ 9223372036854775807) (d : Nat) : ∀ i : Nat, i + d = l.length → Ev (fun k => kotatsuref01_Cut.l0 k (m : Int) ((l.take i).take m) l (l.length : Int) (i : Int)) (l.take m) := by
  induction d with
  | zero =>
    intro i hi
    refine Ev.step (f := fun _ => some (l.take m)) (fun k => ?_) (Ev.now _)
    simp only [kotatsuref01_Cut.l0]
    rw [if_neg (by omega), List.take_of_length_le (show l.length ≤ i by omega)]
  | succ d ih =>
    intro i hi
    have hn := ih (i + 1) (by omega)
    have hlen : ((l.take i).take m).length ≤ i := by simp only [List.length_take]; omega
    have hget : l.take (i + 1) = l.take i ++ [rd l (i : Int)] := by
      unfold rd
      rw [List.take_succ_eq_append_getElem (by omega), List.getD_eq_getElem?_getD, Int.toNat_natCast, List.getElem?_eq_getElem (by omega)]; rfl
    by_cases c : i < m
    · refine Ev.step (f := fun k => kotatsuref01_Cut.l0 k (m : Int) ((l.take (i + 1)).take m) l (l.length : Int) ((i + 1 : Nat) : Int)) (fun k => ?_) hn
      simp only [kotatsuref01_Cut.l0]
      rw [if_pos (by omega), if_pos (by omega), if_pos (by omega), if_pos (by omega), if_pos (by omega), w64 (by omega) (by omega)]
      have e : (l.take (i + 1)).take m = (l.take i).take m ++ [rd l (i : Int)] := by
        rw [hget, List.take_append, List.take_of_length_le (l := [rd l (i : Int)]) (by simp only [List.length_take, List.length_cons, List.length_nil]; omega)]
      rw [e]; rfl
    · refine Ev.step (f := fun k => kotatsuref01_Cut.l0 k (m : Int) ((l.take (i + 1)).take m) l (l.length : Int) ((i + 1 : Nat) : Int)) (fun k => ?_) hn
      simp only [kotatsuref01_Cut.l0]
      rw [if_pos (by omega), if_pos (by omega), if_pos (by omega), if_neg (by omega), w64 (by omega) (by omega)]
      have e : (l.take (i + 1)).take m = (l.take i).take m := by
        rw [List.take_take, List.take_take]; congr 1; omega
      rw [e]; rfl
theorem cut_ev (l : List Int) (m : Nat) (hm : m < 100000) (hl : l.length ≤ 9223372036854775807) : Ev (fun k => kotatsuref01_Cut.f k l (m : Int)) (l.take m) := by
  have := cut_l0 l m hm hl l.length 0 (by omega)
  simpa [kotatsuref01_Cut.f] using this
/-! ### kotatsuref01_Same -/
theorem same_l0 (a b : List Int) (hl : a.length = b.length) (hm : a.length ≤ 140737488355328) (d : Nat) : ∀ i : Nat, i + d = a.length →
    Ev (fun k => kotatsuref01_Same.l0 k a b (a.length : Int) (i : Int)) (decide (a.drop i = b.drop i)) := by
  induction d with
  | zero =>
    intro i hi
    rw [List.drop_eq_nil_of_le (by omega), List.drop_eq_nil_of_le (by omega)]
    refine Ev.step (f := fun _ => some true) (fun k => ?_) (Ev.now _)
    simp only [kotatsuref01_Same.l0]
    rw [if_neg (by omega)]
  | succ d ih =>
    intro i hi
    have ha : a.drop i = rd a (i : Int) :: a.drop (i + 1) := by
      unfold rd
      rw [List.drop_eq_getElem_cons (by omega), List.getD_eq_getElem?_getD, Int.toNat_natCast, List.getElem?_eq_getElem (by omega)]; rfl
    have hb : b.drop i = rd b (i : Int) :: b.drop (i + 1) := by
      unfold rd
      rw [List.drop_eq_getElem_cons (by omega), List.getD_eq_getElem?_getD, Int.toNat_natCast, List.getElem?_eq_getElem (by omega)]; rfl
    by_cases c : rd a (i : Int) = rd b (i : Int)
    · have h1 := ih (i + 1) (by omega)
      have e : decide (a.drop i = b.drop i) = decide (a.drop (i + 1) = b.drop (i + 1)) := by
        rw [ha, hb, c]; simp
      rw [e]
      refine Ev.step (f := fun k => kotatsuref01_Same.l0 k a b (a.length : Int) ((i + 1 : Nat) : Int)) (fun k => ?_) h1
      simp only [kotatsuref01_Same.l0]
      rw [if_pos (by omega), if_pos (by omega), if_pos (by omega), if_pos (by omega), if_pos c, w64 (by omega) (by omega)]
      rfl
    · have e : decide (a.drop i = b.drop i) = false := by
        rw [ha, hb]; simp [c]
      rw [e]
      refine Ev.step (f := fun _ => some false) (fun k => ?_) (Ev.now _)
      simp only [kotatsuref01_Same.l0]
      rw [if_pos (by omega), if_pos (by omega), if_pos (by omega), if_pos (by omega), if_neg c]
theorem same_ev (a b : List Int) (hm : a.length ≤ 140737488355328) : Ev (fun k => kotatsuref01_Same.f k a b) (decide (a = b)) := by
  unfold kotatsuref01_Same.f
  by_cases c : a.length = b.length
  · have := same_l0 a b c hm a.length 0 (by omega)
    refine Ev.congr (fun k => ?_) this
    rw [if_pos (by omega)]
    rfl
  · have e : decide (a = b) = false := decide_eq_false (fun h => c (by rw [h]))
    rw [e]
    refine Ev.congr (fun k => ?_) (Ev.now _)
    rw [if_neg (by omega)]

end Go.Proofs.YtaiaapjlpbhlbaaDoor.PureN
namespace Go.Proofs.YtaiaapjlpbhlbaaDoor.Ada
open Go.RowKit Go.Proofs.YtaiaapjlpbhlbaaDoor.PAdapterNil Go.Proofs.YtaiaapjlpbhlbaaDoorW.PrintWords Go.Proofs.YtaiaapjlpbhlbaaDoorW.PrintLast Go.Proofs.YtaiaapjlpbhlbaaDoorW.PrintMore
set_option linter.unusedVariables false
set_option linter.unusedSimpArgs false
set_option maxRecDepth 20000
theorem cut_calls (A : Option Addr) (c : Nat) (l : List Int) (m : Nat) (W : World) (hm : m < 100000) (hC : (Kd.int .u8).C W A l.length l) (hc : l.length ≤ c) (hy : l.length ≤ 9223372036854775807) :
    Calls Tryd.prog 19 #[.slice A l.length c, .int .i64 (m : Int)] W fun e W' => ∃ v : Value, e = .returned v ∧ Kd.R (Kd.int .u8) 5 W' W.heap.size (fun _ => True) v (l.take m) ∧ Below W.heap.size W W' := by
  obtain ⟨k, hk⟩ := PureN.cut_ev l m hm (by omega)
  exact kotatsuref01_Cut.calls k A c l (m : Int) _ W hC hc (hk k (Nat.le_refl _))
theorem same_calls (A : Option Addr) (c n : Nat) (l : List Int) (A' : Option Addr) (c' n' : Nat) (l' : List Int) (W : World) (hn : l.length = n) (hn' : l'.length = n') (hC : (Kd.int .u8).C W A l.length l) (hc : l.length ≤ c) (hC' : (Kd.int .u8).C W A' l'.length l') (hc' : l'.length ≤ c') (hy : l.length ≤ 140737488355328) :
    Calls Tryd.prog 23 #[.slice A n c, .slice A' n' c'] W fun e W' => e = .returned (.bool (decide (l = l'))) ∧ ∃ n, W' = W.drewN n := by
  subst hn
  subst hn'
  obtain ⟨k, hk⟩ := PureN.same_ev l l' hy
  refine (kotatsuref01_Same.calls k A c l A' c' l' _ W hC hc hC' hc' (hk k (Nat.le_refl _))).mono ?_
  rintro e W' ⟨rfl, ⟨m, rfl⟩⟩
  exact ⟨rfl, m, rfl⟩
theorem R_one (W : World) (b : Int) (base : Nat) (hb : base ≤ W.heap.size) : (Kd.int .u8).R 5 (W.alloc (.cells #[.int .u8 b] 5 (0, 0))) base (fun _ => True) (.slice (some ⟨W.heap.size, 0, none⟩) 1 1) [b] :=
  Kd.R_of_own (xs := [b]) (own_lit W base 5 .u8 [b] hb (show 1 ≤ 9223372036854775807 by decide)) (fun _ _ => trivial)
theorem rd_bytes (l : List Int) (h : ∀ x ∈ l, 0 ≤ x ∧ x < 256) (j : Int) : U8 (rd l j) := by
  unfold rd
  rw [List.getD_eq_getElem?_getD]
  rcases hj : l[j.toNat]? with _ | x
  · exact ⟨by decide, by decide⟩
  · exact h x (List.mem_of_getElem? hj)
structure Apart (B : Nat) (p q : P) : Prop where
  a1 : p.g < B
  a2 : p.gd < B
  a3 : p.gw < B
  a4 : ∀ k, p.v.ownBlock = some k → k < B
  b1 : B ≤ q.g
  b2 : B ≤ q.gd
  b3 : B ≤ q.gw
  b4 : ∀ k, q.v.ownBlock = some k → B ≤ k
theorem Apart.not {B : Nat} {p q : P} (s : Apart B p q) (i : Nat) (hi : i < B) : ¬ Foot q i := by
  have b1 := s.b1
  have b2 := s.b2
  have b3 := s.b3
  rintro (e | e | e | e)
  · omega
  · omega
  · omega
  · have := s.b4 _ e; omega
theorem Is.kept2 {base : Nat} {W W1 : World} {p : P} {a : A} {d : Drv.D} {u : Wave.V} {S : Nat → Prop} (h : Is base W p a d u) (ht : Drive.Turn base W W1 S) (h1 : ¬ S p.g) (h2 : ¬ S p.gd) (h3 : ¬ S p.gw) (h4 : ∀ k, p.v.ownBlock = some k → ¬ S k) : Is base W1 p a d u :=
  ⟨(ht.kept p.g h.at_.lt h1).trans h.at_, h.bs, ⟨(ht.kept p.gd h.dr.1.lt h2).trans h.dr.1, h.dr.2.1, R_kept h.dr.2.2.1 ht.kept h4, h.dr.2.2.2⟩, ⟨(ht.kept p.gw h.wv.at_.lt h3).trans h.wv.at_, h.wv.base, h.wv.lt, h.wv.ln, h.wv.lr⟩, h.ne1, h.ne2, h.ne3, h.own⟩
theorem Apart.keep {B base : Nat} {W W1 : World} {p q : P} {a : A} {d : Drv.D} {u : Wave.V} (s : Apart B p q) (h : Is base W p a d u) (ht : Drive.Turn base W W1 (Foot q)) : Is base W1 p a d u :=
  h.kept2 ht (s.not _ s.a1) (s.not _ s.a2) (s.not _ s.a3) (fun k hk => s.not k (s.a4 k hk))
def aC (o : Int) : A := ⟨0, 0, false, false, false, 1, 65, 0, o, 0, false, false, 32768, 0⟩
theorem small_take {l : List Int} (n : Nat) : (l.take n).length ≤ n := by rw [List.length_take]; omega
set_option maxHeartbeats 8000000 in
theorem nil_walk (at_ b : Int) (A : Option Addr) (c : Nat) (l : List Int) (W : World) (hm : Wave.MS W) (hts : Wave.TS W) (hgm : 0 < W.heap.size) (hg : 1 < W.heap.size) (hat : 0 ≤ at_ ∧ at_ < 65536) (hb : U8 b) (hC : (Kd.int .u8).C W A l.length l) (hc : l.length ≤ c) (hy : l.length ≤ 9223372036854775807) (hw : ∀ x ∈ l, 0 ≤ x ∧ x < 256) :
    Calls Tryd.prog 6 #[.int .u16 at_, .int .u8 b, .slice A l.length c] W fun e W' => e = .returned (.bool true) ∧ Below W.heap.size W W' := by
  have HMS := Aside0.mk (fun (W1 : World) (hb : Below W.heap.size W W1) => hm.below hb hgm)
  have HTS := Aside0.mk (fun (W1 : World) (hb : Below W.heap.size W W1) => hts.below hb hg)
  have HGT := Aside0.mk hg
  have HAW := Aside0.mk (awake_calls W hts hg)
  have HCUT := Aside0.mk (fun (W1 : World) (hb : Below W.heap.size W W1) => cut_calls A c l 8 W1 (by decide) (Kd.C_below hC hb) hc hy)
  have HP20 := Aside0.mk (small_take (l := l) 8)
  have HPW := Aside0.mk (show ∀ x ∈ l.take 8, 0 ≤ x ∧ x < 256 from fun x hx => hw x (List.mem_of_mem_take hx))
  have HB := Aside0.mk hb
  generalize l.take 8 = p0 at HCUT HP20 HPW
  clear hm hts hgm hg hat hb hC hc hy hw
  generalize l.length = n0 at *
  go_enter Tryd.func6, Tryd.ntmps6
  go_wp2_with (first
    | (go_at_call 9; refine HAW.out.mono ?_; rintro e w1 ⟨rfl, hb⟩; have HB1 := Aside0.mk hb; clear hb)
    | (go_at_call 19; refine (HCUT.out _ (below_alloc HB1.out _)).mono ?_; rintro e w2 ⟨v, rfl, hR, hb⟩; have HO := Aside0.mk (Kd.R_below (R_one w1 b w1.heap.size (Nat.le_refl _)) hb); have HB2 := Aside0.mk (below_step (below_alloc (Below.refl _ _) _) hb); obtain ⟨A1, c1, rfl, hc1, hC1⟩ := Kd.R_reads hR; have HV := Aside0.mk (And.intro hc1 hC1); clear hb hR hc1 hC1)
    | ((with_reducible refine gate_builtin (b := .append) (xs := #[.tmp 15, .tmp 17]) rfl ?_); at_builtin; refine Kd.R_append_rows (Kd.int .u8) (w0 := w1) w1.heap.size rfl (.tmp 15) (.tmp 17) 36 5 (.int .u8 0) 1 rfl Tryd.underlying36 info5 rfl (by decide) (by omega) _ [b] p0 _ _ _ (fun _ => True) (fun _ => False) rfl rfl HO.out HV.out.2 (fun _ _ h => h) (fun _ h => h.elim) (fun _ _ => trivial) HB2.out HB2.out.size (by have := HP20.out; simp; omega) ?_; intro v3 w3 ho hb hg hat; have HB3 := Aside0.mk hb; have HR3 := Aside0.mk ho; clear ho hb hg hat)
    | fail)
  obtain ⟨A3, c3, rfl, hc3, hC3⟩ := Kd.R_reads HR3.out
  have HP3 := Aside0.mk (And.intro hc3 (And.intro hC3 (And.intro (show ([b] ++ p0 : List Int) ≠ [] by simp) (show ([b] ++ p0 : List Int).length ≤ 9 by have := HP20.out; simp; omega))))
  have HBY := Aside0.mk (show ∀ j, U8 (rd ([b] ++ p0) j) from fun j => rd_bytes _ (fun x hx => by
    rcases List.mem_append.1 hx with h | h
    · rw [List.mem_singleton.1 h]; exact HB.out
    · exact HPW.out x h) j)
  clear hc3 hC3 HR3
  generalize ([b] ++ p0 : List Int) = l3 at *
  have HBW := Aside0.mk (below_step HB1.out HB3.out)
  clear HB1 HB2 HB3 HV HO HCUT HPW HP20
  have R3 := Aside0.mk (Below.refl w3.heap.size w3)
  refine (nil_put _ _ _).mono ?_
  rintro e w4 ⟨rfl, hx⟩
  have B4 := Aside0.mk (show Below w3.heap.size w3 w4 by obtain ⟨n, rfl⟩ := hx; exact pw_below_drewN R3.out n)
  clear hx
  go_wp2_with fail
  refine (nil_clock _).mono ?_
  rintro e w5 ⟨rfl, hx⟩
  have B5 := Aside0.mk (show Below w3.heap.size w3 w5 by obtain ⟨n, rfl⟩ := hx; exact pw_below_drewN B4.out n)
  clear hx
  go_wp2_with fail
  refine (nil_get _ _).mono ?_
  rintro e w6 ⟨rfl, hx⟩
  have B6 := Aside0.mk (show Below w3.heap.size w3 w6 by obtain ⟨n, rfl⟩ := hx; exact pw_below_drewN B5.out n)
  clear hx
  go_wp2_with fail
  refine (nil_irq _).mono ?_
  rintro e w7 ⟨rfl, hx⟩
  have B7 := Aside0.mk (show Below w3.heap.size w3 w7 by obtain ⟨n, rfl⟩ := hx; exact pw_below_drewN B6.out n)
  clear hx
  go_wp2_with fail
  refine (nil_upright _).mono ?_
  rintro e w8 ⟨rfl, hx⟩
  have B8 := Aside0.mk (show Below w3.heap.size w3 w8 by obtain ⟨n, rfl⟩ := hx; exact pw_below_drewN B7.out n)
  clear hx
  go_wp2_with fail
  refine (nil_out _).mono ?_
  rintro e w9 ⟨rfl, hx⟩
  have B9 := Aside0.mk (show Below w3.heap.size w3 w9 by obtain ⟨n, rfl⟩ := hx; exact pw_below_drewN B8.out n)
  clear hx
  go_wp2_with fail
  refine (nil_drive _).mono ?_
  rintro e w10 ⟨rfl, hx⟩
  have B10 := Aside0.mk (show Below w3.heap.size w3 w10 by obtain ⟨n, rfl⟩ := hx; exact pw_below_drewN B9.out n)
  clear hx
  go_wp2_with fail
  refine (nil_copyA _).mono ?_
  rintro e w11 ⟨rfl, hx⟩
  have B11 := Aside0.mk (show Below w3.heap.size w3 w11 by obtain ⟨n, rfl⟩ := hx; exact pw_below_drewN B10.out n)
  clear hx
  go_wp2_with fail
  have BW := Aside0.mk (below_step HBW.out B11.out)
  have C11 := Aside0.mk (Kd.C_below HP3.out.2.1 B11.out)
  have ne3 := HP3.out.2.2.1
  have hl0 : 0 < l3.length := by
    rcases Nat.eq_zero_or_pos l3.length with e | e
    · exact absurd (List.length_eq_zero_iff.1 e) ne3
    · exact e
  have HL0 := Aside0.mk hl0
  clear ne3 hl0
  refine (open_calls W.heap.size w11 BW.out.size A3 c3 l3 C11.out HP3.out.1 HL0.out (by have := HP3.out.2.2.2; omega)).mono ?_
  rintro e w12 ⟨pa, rfl, hi, hb, g1, g2, g3, gv⟩
  have HA := Aside0.mk hi; have B12 := Aside0.mk (BW.out.trans (hb.mono BW.out.size)); have C12 := Aside0.mk (Kd.C_below C11.out hb)
  clear hi hb g1 g2 g3 gv
  go_wp2_with fail
  refine (copyA_calls W.heap.size w12 pa aI _ Wave.v0 HA.out B12.out.size).mono ?_
  rintro e w13 ⟨pc, rfl, hi, hb, g1, g2, g3, gv⟩
  have SP := Aside0.mk (show Apart w12.heap.size pa pc from ⟨HA.out.at_.lt, HA.out.dr.1.lt, HA.out.wv.at_.lt, fun k hk => Kd.R_lt HA.out.dr.2.2.1 k hk, g1, g2, g3, gv⟩)
  have HA13 := Aside0.mk (HA.out.below hb); have HC13 := Aside0.mk hi; have B13 := Aside0.mk (B12.out.trans (hb.mono B12.out.size)); have C13 := Aside0.mk (Kd.C_below C12.out hb)
  have BB := Aside0.mk B12.out.size
  have Q13 := Aside0.mk (Below.refl w13.heap.size w13)
  have S13 := Aside0.mk hb.size
  have HB12 := Aside0.mk hb
  clear hi hb g1 g2 g3 gv HA
  generalize hbb : w12.heap.size = bb at *
  have HBB := Aside0.mk hbb
  clear hbb
  have hu1 : U8 (IntKind.u8.wrap (b + 1)) := by rw [IntKind.wrap_u8]; exact ⟨by omega, by omega⟩
  have HU1 := Aside0.mk hu1
  clear hu1
  go_wp2_with fail
  refine (put_calls W.heap.size w13 pc aI _ Wave.v0 HC13.out ⟨by decide, by decide⟩ Wave.okv0.wf (HMS.out _ B13.out) 16421 65 ⟨by decide, by decide⟩ ⟨by decide, by decide⟩).mono ?_
  rintro e w14 ⟨rfl, hi, ht⟩
  have HC14 := Aside0.mk (show Is W.heap.size w14 pc (aC 0) (Drive.back { d0 with side := l3, motor := true }) Wave.v0 from hi)
  have HA14 := Aside0.mk (SP.out.keep HA13.out ht); have T14 := Aside0.mk ht; have B14 := Aside0.mk (B13.out.trans ht.below)
  clear hi ht
  generalize hb1 : IntKind.u8.wrap (b + 1) = b1 at *
  go_wp2_with fail
  refine (put_calls W.heap.size w14 pc (aC 0) _ Wave.v0 HC14.out ⟨by decide, by decide⟩ Wave.okv0.wf (HMS.out _ B14.out) 16420 b1 ⟨by decide, by decide⟩ HU1.out).mono ?_
  rintro e w15 ⟨rfl, hi, ht⟩
  have HC15 := Aside0.mk (show Is W.heap.size w15 pc (aC b1) (Drive.back { d0 with side := l3, motor := true }) Wave.v0 from hi)
  have HA15 := Aside0.mk (SP.out.keep HA14.out ht); have T15 := Aside0.mk (T14.out.trans ht); have B15 := Aside0.mk (B14.out.trans ht.below)
  clear hi ht
  have GD := Aside0.mk (show Good W.heap.size w15 pc l3.length 65 (aC b1) (Drive.back { d0 with side := l3, motor := true }) Wave.v0 l3 0 from
    ⟨HC15.out, ⟨⟨by show (0 : Int) ≤ 0; decide, by show (0 : Int) < 65536; decide⟩, ⟨by show (0 : Int) ≤ 0; decide, by show (0 : Int) < 65536; decide⟩, ⟨by show (0 : Int) ≤ 65; decide, by show (65 : Int) < 256; decide⟩, HU1.out, ⟨by show (0 : Int) ≤ 32768; decide, by show (32768 : Int) < 65536; decide⟩, ⟨by show (0 : Int) ≤ 0; decide, by show (0 : Int) ≤ 2; decide⟩⟩, rfl, Drive.Runs.of_back (d := { d0 with side := l3, motor := true }) rfl HP3.out.2.2.1, rfl, HBY.out, rfl, Wave.okv0⟩)
  go_wp2_with fail
  refine (passes_calls W.heap.size w15 pc l3.length 65 _ _ _ l3 0 GD.out (by have := HP3.out.2.2.2; omega) (HTS.out _ B15.out) HGT.out).mono ?_
  rintro e w16 ⟨r, a6, d6, u6, l6, t6, rfl, hg6, ht⟩
  have HC16 := Aside0.mk hg6.is_
  have HA16 := Aside0.mk (SP.out.keep HA15.out ht); have T16 := Aside0.mk (T15.out.trans ht); have B16 := Aside0.mk (B15.out.trans ht.below)
  clear hg6 ht
  go_wp2_with fail
  refine (drive_calls W.heap.size w16 pc a6 d6 u6 HC16.out).mono ?_
  rintro e w17 ⟨rfl, rfl⟩
  go_wp2_with fail
  refine (Drive.eject_calls W.heap.size pc.gd pc.v d6 w16 HC16.out.dr).mono ?_
  rintro e w17 ⟨rfl, hi, _, ht⟩
  have HD17 := Aside0.mk hi
  have HC17 := Aside0.mk (HC16.out.after_insert hi ht (fun k hk => by cases hk))
  have HA17 := Aside0.mk (SP.out.keep HA16.out (ht.mono (fun i e => .inr (.inl e)))); have T17 := Aside0.mk (T16.out.trans (ht.mono (S' := Foot pc) (fun i e => .inr (.inl e)))); have B17 := Aside0.mk (B16.out.trans ht.below)
  clear hi ht
  go_wp2_with fail
  refine (drive_calls W.heap.size w17 pa _ _ _ HA17.out).mono ?_
  rintro e w18 ⟨rfl, rfl⟩
  go_wp2_with fail
  refine (Drive.has_calls W.heap.size pa.gd pa.v _ w17 HA17.out.dr).mono ?_
  rintro e w18 ⟨rfl, rfl⟩
  rw [show Drive.hasB (Drive.back { d0 with side := l3 }) = true from (Drive.hasB_pos (d := Drive.back { d0 with side := l3 }) HP3.out.2.2.1).1]
  have XB := Aside0.mk (show Below w12.heap.size w12 w17 by
    rw [HBB.out]
    refine over HB12.out T17.out (fun i hf => ?_) (Nat.le_of_eq HBB.out.symm)
    rcases Nat.lt_or_ge i bb with h | h
    · exact absurd hf (SP.out.not i h)
    · exact h)
  have C17 := Aside0.mk (Kd.C_below C12.out XB.out)
  go_wp2_with fail
  refine (drive_calls W.heap.size w17 pa _ _ _ HA17.out).mono ?_
  rintro e w18 ⟨rfl, rfl⟩
  go_wp2_with fail
  refine (Drive.side_calls W.heap.size pa.gd pa.v _ w17 HA17.out.dr).mono ?_
  rintro e w18 ⟨v8, rfl, hR, hb⟩
  obtain ⟨A8, c8, rfl, hc8, hC8⟩ := Kd.R_reads hR
  have C8 := Aside0.mk (show (Kd.int .u8).C w18 A8 l3.length l3 from hC8)
  have L8 := Aside0.mk (show l3.length ≤ c8 from hc8)
  have C18 := Aside0.mk (Kd.C_below C17.out hb)
  have HC18 := Aside0.mk (HC17.out.below hb)
  have B18 := Aside0.mk (B17.out.trans (hb.mono B17.out.size))
  clear hR hb hc8 hC8
  have HSM := Aside0.mk (same_calls A8 c8 l3.length l3 A3 c3 l3.length l3 w18 rfl rfl C8.out L8.out C18.out HP3.out.1 (by have := HP3.out.2.2.2; omega))
  rw [show decide (l3 = l3) = true from decide_eq_true rfl] at HSM
  go_wp2_with fail
  refine HSM.out.mono ?_
  rintro e w19 ⟨rfl, n9, rfl⟩
  have HC19 := Aside0.mk (HC18.out.drewN n9)
  go_wp2_with fail
  refine (drive_calls W.heap.size _ ⟨pc.g, pc.gd, pc.gw, .slice none 0 0⟩ _ _ _ HC19.out).mono ?_
  rintro e w20 ⟨rfl, rfl⟩
  go_wp2_with fail
  refine (Drive.has_calls W.heap.size pc.gd (.slice none 0 0) _ _ HC19.out.dr).mono ?_
  rintro e w20 ⟨rfl, rfl⟩
  rw [show Drive.hasB (Drive.back { d6 with side := [], passed := -1 }) = false from rfl]
  go_wp2
  go_ret
  exact ⟨by first | rfl | simp, pw_below_drewN B18.out n9⟩
end Go.Proofs.YtaiaapjlpbhlbaaDoor.Ada
