/-
  AdapterTimes: the timer. By the prover of this repo.
  AdapterShuts: what is shut. By the prover of this repo.
-/
import Derived.Test.YtaiaapjlpbhlbaaDoorAdZa
import Derived.Test.YtaiaapjlpbhlbaaDoorAdZb
namespace Go.Proofs.YtaiaapjlpbhlbaaDoor.Ada
open Go.RowKit Go.Proofs.YtaiaapjlpbhlbaaDoorW.PrintWords Go.Proofs.YtaiaapjlpbhlbaaDoorW.PrintLast Go.Proofs.YtaiaapjlpbhlbaaDoorW.PrintMore
set_option linter.unusedVariables false
set_option linter.unusedSimpArgs false
set_option maxRecDepth 20000
theorem clock0 (base : Nat) (W : World) (p : P) (a : A) (u : Wave.V) (h : Is base W p a d0 u) (hc : 0 ≤ a.count ∧ a.count < 65536) (hu : Wave.Okv u) (hts : Wave.TS W) (hgb : 1 < base) :
    Calls Tryd.prog 12 #[.pointer (some ⟨p.g, 0, none⟩)] W fun e W' => e = .returned (.tuple #[]) ∧ Is base W' p (tick a) d0 (Wave.clockV u) ∧ Turn base W W' (Foot p) := by
  have h1 := clock_none base W p a d0 u h hc hu hts hgb ⟨by decide, by decide, by decide, by decide⟩ rfl
  rwa [show (Drv.clk d0).1 = d0 from rfl] at h1
def stA (fr c : Int) (on rep exp : Bool) : A := ⟨fr, c, on, rep, exp, 1, 0, 0, 0, 0, false, false, 32768, 0⟩
theorem open0 : shutA a0 1 = stA 0 0 false false false := rfl
theorem shutD1 : shutD d0 1 = d0 := rfl
theorem shutD0 : shutD d0 0 = d0 := rfl
theorem tim2 (fr c : Int) (on rep exp : Bool) : timA (stA fr c on rep exp) 2 = stA fr fr true false exp := rfl
theorem tim3 (fr c : Int) (on rep exp : Bool) : timA (stA fr c on rep exp) 3 = stA fr fr true true exp := rfl
theorem tim0 (fr c : Int) (on rep exp : Bool) : timA (stA fr c on rep exp) 0 = stA fr c false false false := rfl
theorem tick_off (fr c : Int) (rep exp : Bool) : tick (stA fr c false rep exp) = stA fr c false rep exp := rfl
theorem tick_on {fr c : Int} (h : 0 < c) (rep exp : Bool) : tick (stA fr c true rep exp) = stA fr (c - 1) true rep exp := by
  unfold tick stA
  rw [if_neg (by simp), if_pos h]
theorem tick_end (fr : Int) (rep exp : Bool) : tick (stA fr 0 true rep exp) = stA fr fr rep rep true := rfl
theorem irqS (fr c : Int) (on rep exp : Bool) : irqB (stA fr c on rep exp) = exp := by cases exp <;> rfl
theorem oS (fr c : Int) (on rep exp : Bool) : U8 (stA fr c on rep exp).opn := ⟨by show (0 : Int) ≤ 1; decide, by show (1 : Int) < 256; decide⟩
theorem cS (fr c : Int) (on rep exp : Bool) : U8 (stA fr c on rep exp).ctl := ⟨by show (0 : Int) ≤ 0; decide, by show (0 : Int) < 256; decide⟩
theorem bS (fr c : Int) (on rep exp : Bool) : bit (stA fr c on rep exp).opn 1 = true := rfl
theorem next_mod (x p : Int) (hp : 0 < p) : (x + 1) % p = if x % p + 1 = p then 0 else x % p + 1 := by
  have h := Int.emod_add_mul_ediv x p
  have h0 := Int.emod_nonneg x (show p ≠ 0 by omega)
  have h1 := Int.emod_lt_of_pos x hp
  have e : (x + 1) % p = (x % p + 1) % p := by
    conv => lhs; rw [← h]
    rw [show x % p + p * (x / p) + 1 = x % p + 1 + p * (x / p) by omega, Int.add_mul_emod_self_left]
  rw [e]
  split
  · rename_i hh; rw [hh, Int.emod_self]
  · exact Int.emod_eq_of_lt (by omega) (by omega)
theorem plan (fr per c i : Int) (rep : Bool) (hp : per = fr + 1 ∧ 0 ≤ fr ∧ fr < 65536) (hi : 1 ≤ i) (hc : c = fr - (i - 1) % per) (hr : rep = true ∨ i ≤ per) :
    (0 ≤ c ∧ c < 65536) ∧ (0 < c → (i % per == 0) = false ∧ c - 1 = fr - (i + 1 - 1) % per ∧ (rep = true ∨ i + 1 ≤ per)) ∧ (¬ 0 < c → c = 0 ∧ (i % per == 0) = true ∧ (rep = true ∨ (i == per) = true ∧ per < i + 1) ∧ fr = fr - (i + 1 - 1) % per) := by
  obtain ⟨hp1, hp2, hp3⟩ := hp
  have nm := next_mod (i - 1) per (by omega)
  rw [show (i - 1 + 1 : Int) = i by omega] at nm
  rw [show (i + 1 - 1 : Int) = i by omega]
  have q0 := Int.emod_nonneg (i - 1) (show per ≠ 0 by omega)
  have q1 := Int.emod_lt_of_pos (i - 1) (show 0 < per by omega)
  have q2 : i ≤ per → (i - 1) % per = i - 1 := fun h => Int.emod_eq_of_lt (by omega) (by omega)
  generalize (i - 1) % per = q at *
  refine ⟨by omega, fun h => ?_, fun h => ?_⟩
  · rw [if_neg (by omega)] at nm
    refine ⟨by rw [beq_eq_false_iff_ne, nm]; omega, by rw [nm]; omega, hr.imp id (fun h => by have := q2 h; omega)⟩
  · rw [if_pos (by omega)] at nm
    refine ⟨by omega, by rw [nm]; rfl, hr.imp id (fun h => by have := q2 h; exact ⟨beq_iff_eq.2 (by omega), by omega⟩), by rw [nm]; omega⟩
set_option maxHeartbeats 8000000 in
theorem awake_calls (W : World) (hts : Wave.TS W) (hg : 1 < W.heap.size) :
    Calls Tryd.prog 9 #[] W fun e W' => e = .returned (.bool true) ∧ Below W.heap.size W W' := by
  have HTS := Aside0.mk (fun (W1 : World) (hb : Below W.heap.size W W1) => hts.below hb hg)
  have HG := Aside0.mk hg
  clear hts hg
  go_enter Tryd.func9, Tryd.ntmps9
  go_wp2_with fail
  refine (newA_calls W.heap.size W (Nat.le_refl _)).mono ?_
  rintro e w1 ⟨p, rfl, hi, hb, _, _, _, _⟩
  have H1 := Aside0.mk hi; have B1 := Aside0.mk hb; clear hi hb
  go_wp2_with fail
  refine (put_open W.heap.size w1 p a0 d0 Wave.v0 H1.out 1 ⟨by decide, by decide⟩).mono ?_
  rintro e w2 ⟨rfl, hi, ht⟩
  rw [open0, shutD1] at hi
  have H2 := Aside0.mk hi; have B2 := Aside0.mk (B1.out.trans ht.below); clear hi ht
  go_wp2_with fail
  refine (put_low W.heap.size w2 p _ d0 Wave.v0 H2.out 5 ⟨by decide, by decide⟩ rfl).mono ?_
  rintro e w3 ⟨rfl, hi, ht⟩
  have H3 := Aside0.mk (show Is W.heap.size w3 p (stA 5 0 false false false) d0 Wave.v0 from hi); have B3 := Aside0.mk (B2.out.trans ht.below); clear hi ht
  go_wp2_with fail
  refine (put_timer W.heap.size w3 p _ d0 Wave.v0 H3.out ⟨by decide, by decide⟩ (by decide) 2 ⟨by decide, by decide⟩).mono ?_
  rintro e w4 ⟨rfl, hi, ht⟩
  rw [tim2] at hi
  have H4 := Aside0.mk hi; have B4 := Aside0.mk (B3.out.trans ht.below); clear hi ht
  go_wp2_with fail
  go_loopg [10] 5 (fun kq v10 w' => ∃ (i : Int) (u : Wave.V), v10 = .int .i64 i ∧ Aside0 (Is W.heap.size w' p (stA 5 (5 - i) true false false) d0 u ∧ Wave.Okv u) ∧ Aside0 (i + kq = 5 ∧ 0 ≤ i) ∧ Aside0 (Below W.heap.size W w'))
  case atStart => exact ⟨0, Wave.v0, rfl, ⟨H4.out, Wave.okv0⟩, ⟨by decide, by decide⟩, B4⟩
  case round =>
    clear H1 H2 H3 H4 B1 B2 B3 B4
    obtain ⟨i, u, rfl, HR, HI, HB⟩ := hrel
    by_cases hlt : i < 5
    · have d1 : decide (i < 5) = true := decide_eq_true hlt
      have e1 : wrap64 (i + 1) = i + 1 := Wave.wr64 (by have := HI.out; omega) (by omega)
      have HC := Aside0.mk (clock0 W.heap.size wr p _ u HR.out.1 ⟨by show 0 ≤ 5 - i; omega, by show 5 - i < 65536; have := HI.out; omega⟩ HR.out.2 (HTS.out _ HB.out) HG.out)
      have HE := Aside0.mk (tick_on (fr := 5) (c := 5 - i) (by omega) false false)
      have HL := Aside0.mk hlt
      clear hlt
      go_wp2_with fail
      refine HC.out.mono ?_
      rintro e w5 ⟨rfl, hi, ht⟩
      rw [HE.out, show (5 - i - 1 : Int) = 5 - (i + 1) by omega] at hi
      have H5 := Aside0.mk hi; have B5 := Aside0.mk (HB.out.trans ht.below); clear hi ht
      go_wp2
      go_roundg (gk - 1)
      case measure => have := HI.out; have := HL.out; omega
      case rel => exact ⟨i + 1, _, by first | rfl | (congr 1), ⟨H5.out, Wave.clockV_ok HR.out.2⟩, ⟨by have := HI.out; have := HL.out; omega, by have := HI.out; omega⟩, B5⟩
    · have d1 : decide (i < 5) = false := decide_eq_false hlt
      have hi5 : i = 5 := by have := HI.out; omega
      subst hi5
      clear hlt d1
      go_wp2_with fail
      refine (irq_calls W.heap.size wr p _ d0 u HR.out.1 ⟨by decide, by decide⟩).mono ?_
      rintro e w5 ⟨rfl, rfl⟩
      rw [irqS]
      go_wp2_with fail
      refine (clock0 W.heap.size wr p _ u HR.out.1 ⟨by decide, by decide⟩ HR.out.2 (HTS.out _ HB.out) HG.out).mono ?_
      rintro e w6 ⟨rfl, hi, ht⟩
      rw [show tick (stA 5 (5 - 5) true false false) = stA 5 5 false false true from rfl] at hi
      have H6 := Aside0.mk hi; have B6 := Aside0.mk (HB.out.trans ht.below); clear hi ht
      go_wp2_with fail
      refine (irq_calls W.heap.size w6 p _ d0 _ H6.out ⟨by decide, by decide⟩).mono ?_
      rintro e w7 ⟨rfl, rfl⟩
      rw [irqS]
      go_wp2
      go_ret
      exact ⟨rfl, B6.out⟩
set_option maxHeartbeats 8000000 in
theorem times_walk (lo hi : Int) (rep : Bool) (n e : Int) (W : World) (hm : Wave.MS W) (hts : Wave.TS W) (hgm : 0 < W.heap.size) (hg : 1 < W.heap.size) (hlo : U8 lo) (hhi : U8 hi) (hn : 0 ≤ n ∧ n < 65536) (he : U8 e) :
    Calls Tryd.prog 3 #[.int .u8 lo, .int .u8 hi, .bool rep, .int .u16 n, .int .u8 e] W fun e W' => e = .returned (.bool true) ∧ Below W.heap.size W W' := by
  have HTS := Aside0.mk (fun (W1 : World) (hb : Below W.heap.size W W1) => hts.below hb hg)
  have HG := Aside0.mk hg
  have HAW := Aside0.mk (awake_calls W hts hg)
  obtain ⟨lo0, lo1⟩ := hlo
  obtain ⟨hi0, hi1⟩ := hhi
  have m1 : hi.tmod 4 = hi % 4 := Int.tmod_eq_emod_of_nonneg hi0
  have m2 : n.tmod 5000 = n % 5000 := Int.tmod_eq_emod_of_nonneg hn.1
  have m3 : e.tmod 3 = e % 3 := Int.tmod_eq_emod_of_nonneg he.1
  have h40 : 0 ≤ hi % 4 := by omega
  have h41 : hi % 4 < 4 := by omega
  have n50 : 0 ≤ n % 5000 := by omega
  have n51 : n % 5000 < 5000 := by omega
  have e30 : 0 ≤ e % 3 := by omega
  have e31 : e % 3 < 3 := by omega
  have wn1 : wrap64 n = n := Wave.wr64 (by omega) (by omega)
  have wn2 : IntKind.i64.wrap n = n := by rw [IntKind.wrap_i64]; omega
  have wl1 : wrap64 lo = lo := Wave.wr64 (by omega) (by omega)
  have wl2 : IntKind.i64.wrap lo = lo := by rw [IntKind.wrap_i64]; omega
  generalize hi % 4 = h4 at *
  generalize n % 5000 = n5 at *
  generalize e % 3 = e3 at *
  have wh1 : wrap64 h4 = h4 := Wave.wr64 (by omega) (by omega)
  have wh2 : IntKind.i64.wrap h4 = h4 := by rw [IntKind.wrap_i64]; omega
  have wp1 : wrap64 (1 + lo) = 1 + lo := Wave.wr64 (by omega) (by omega)
  have wp2 : wrap64 (256 * h4) = 256 * h4 := Wave.wr64 (by omega) (by omega)
  have wp3 : wrap64 (1 + lo + 256 * h4) = 1 + lo + 256 * h4 := Wave.wr64 (by omega) (by omega)
  have wn5 : wrap64 (1 + n5) = 1 + n5 := Wave.wr64 (by omega) (by omega)
  have U4 := Aside0.mk (show U8 h4 from ⟨by omega, by omega⟩)
  have UL := Aside0.mk (show U8 lo from ⟨lo0, lo1⟩)
  have N5 := Aside0.mk (And.intro n50 n51)
  have E3 := Aside0.mk (And.intro e30 e31)
  clear hts hg hm hgm hn he lo0 lo1 hi0 hi1 h40 h41 n50 n51 e30 e31
  go_enter Tryd.func3, Tryd.ntmps3
  go_wp2_with (go_at_call 9; refine HAW.out.mono ?_; rintro e w1 ⟨rfl, hb⟩; have B1 := Aside0.mk hb; clear hb)
  refine (newA_calls W.heap.size w1 B1.out.size).mono ?_
  rintro e w2 ⟨p, rfl, hi, hb, _, _, _, _⟩
  have H2 := Aside0.mk hi; have B2 := Aside0.mk (B1.out.trans (hb.mono B1.out.size)); clear hi hb
  go_wp2_with fail
  refine (put_low W.heap.size w2 p _ d0 Wave.v0 H2.out lo UL.out rfl).mono ?_
  rintro e w3 ⟨rfl, hi, ht⟩
  have H3 := Aside0.mk hi; have B3 := Aside0.mk (B2.out.trans ht.below); clear hi ht
  go_wp2_with fail
  refine (put_high W.heap.size w3 p _ d0 Wave.v0 H3.out h4 U4.out UL.out).mono ?_
  rintro e w4 ⟨rfl, hi, ht⟩
  have H4 := Aside0.mk hi; have B4 := Aside0.mk (B3.out.trans ht.below); clear hi ht
  go_wp2_with fail
  refine (put_open W.heap.size w4 p _ d0 Wave.v0 H4.out 1 ⟨by decide, by decide⟩).mono ?_
  rintro e w5 ⟨rfl, hi, ht⟩
  have H5 := Aside0.mk (show Is W.heap.size w5 p (stA (lo + h4 * 256) 0 false false false) d0 Wave.v0 from hi); have B5 := Aside0.mk (B4.out.trans ht.below); clear hi ht
  have HRP := Aside0.mk (fun (b : Int) (hb : U8 b) => put_timer W.heap.size w5 p _ d0 Wave.v0 H5.out (oS _ _ _ _ _) (bS _ _ _ _ _) b hb)
  go_upto_if 33 with fail
  go_cut [12] (fun v12 wc => ∃ b2 : Int, v12 = .int .u8 b2 ∧ Aside0 (b2 = if rep = true then 3 else 2) ∧ wc = w5)
  case first =>
    cases rep
    · go_wp2
      go_meet
      case rel => exact ⟨_, rfl, ⟨rfl⟩, rfl⟩
    · go_wp2
      go_meet
      case rel => exact ⟨_, rfl, ⟨rfl⟩, rfl⟩
  case rest =>
    obtain ⟨b2, rfl, HB2, hw5⟩ := hcut
    subst hw5
    clear B1 B2 B3 B4 H2 H3 H4
    have hb3 : U8 b2 := by rw [HB2.out]; split <;> exact ⟨by decide, by decide⟩
    have HP := Aside0.mk (HRP.out _ hb3)
    have HE := Aside0.mk (show timA (stA (lo + h4 * 256) 0 false false false) b2 = stA (lo + h4 * 256) (lo + h4 * 256) true rep false from by rw [HB2.out]; cases rep <;> rfl)
    rw [HE.out] at HP
    clear HRP hb3
    have U4' := U4.out
    have UL' := UL.out
    obtain ⟨x0, x1⟩ := U4'
    obtain ⟨y0, y1⟩ := UL'
    have HPER := Aside0.mk (show 1 + lo + 256 * h4 = lo + h4 * 256 + 1 ∧ 0 ≤ lo + h4 * 256 ∧ lo + h4 * 256 < 65536 from ⟨by omega, by omega, by omega⟩)
    clear x0 x1 y0 y1
    go_wp2_with fail
    refine HP.out.mono ?_
    rintro e w6 ⟨rfl, hi, ht⟩
    have H6 := Aside0.mk hi; have B6 := Aside0.mk (B5.out.trans ht.below); clear hi ht
    go_wp2_with fail
    clear H5 B5 HE HP
    generalize 1 + lo + 256 * h4 = per at *
    generalize lo + h4 * 256 = fr at *
    rw [wp3, wp1, wp2]
    go_loopg [14] (n5 + 1).toNat (fun kq v14 w' => ∃ (i : Int) (on : Bool) (c : Int) (u : Wave.V), v14 = .int .i64 i ∧ Aside0 (Is W.heap.size w' p (stA fr c on rep false) d0 u ∧ Wave.Okv u) ∧ Aside0 (i + kq = n5 + 2 ∧ 1 ≤ i) ∧ Aside0 (on = true ∧ c = fr - (i - 1) % per ∧ (rep = true ∨ i ≤ per) ∨ on = false ∧ rep = false ∧ per < i ∧ 0 ≤ c ∧ c < 65536) ∧ Aside0 (Below W.heap.size W w'))
    case atStart => exact ⟨1, true, fr, Wave.v0, rfl, ⟨H6.out, Wave.okv0⟩, ⟨by have := N5.out; omega, by decide⟩, ⟨.inl ⟨rfl, by show fr = fr - 0 % per; rw [Int.zero_emod]; omega, .inr (by have := HPER.out; omega)⟩⟩, B6⟩
    case round =>
      clear H6 B6
      obtain ⟨i, on, c, u, rfl, HR, HI, HJ, HB⟩ := hrel
      by_cases hlt : i ≤ 1 + n5
      · have d1 : decide (i ≤ 1 + n5) = true := decide_eq_true hlt
        have e1 : wrap64 (i + 1) = i + 1 := Wave.wr64 (by have := HI.out.2; omega) (by have := N5.out; omega)
        have MP := Aside0.mk (show i.tmod per = i % per from Int.tmod_eq_emod_of_nonneg (by have := HI.out.2; omega))
        have zp : (per == 0) = false := by have := HPER.out; rw [beq_eq_false_iff_ne]; omega
        have zq := eq_false (show ¬ per = 0 by have := HPER.out; omega)
        have HL := Aside0.mk hlt
        have OK := Aside0.mk (Wave.clockV_ok HR.out.2)
        clear hlt
        rcases HJ.out with ⟨rfl, hc, hr⟩ | ⟨rfl, rfl, hpi, h0, h1⟩
        · have PL := Aside0.mk (plan fr per c i rep HPER.out HI.out.2 hc hr)
          have HC := Aside0.mk (clock0 W.heap.size wr p _ u HR.out.1 PL.out.1 HR.out.2 (HTS.out _ HB.out) HG.out)
          clear hc hr
          by_cases hc0 : 0 < c
          · have d2 : (i % per == 0) = false := (PL.out.2.1 hc0).1
            have HT := Aside0.mk (tick_on (fr := fr) hc0 rep false)
            have HQ := Aside0.mk (PL.out.2.1 hc0).2
            have mp := MP.out
            clear hc0 MP
            go_wp2_with fail
            refine HC.out.mono ?_
            rintro e w7 ⟨rfl, hi, ht⟩
            rw [HT.out] at hi
            have H7 := Aside0.mk hi; have B7 := Aside0.mk (HB.out.trans ht.below); clear hi ht
            go_wp2_with fail
            refine (irq_calls W.heap.size w7 p _ d0 _ H7.out (cS _ _ _ _ _)).mono ?_
            rintro e w8 ⟨rfl, rfl⟩
            rw [irqS]
            clear mp
            go_wp2
            go_roundg (gk - 1)
            case measure => have := HI.out; have := HL.out; omega
            case rel => exact ⟨i + 1, true, c - 1, _, by first | rfl | (congr 1), ⟨H7.out, OK.out⟩, ⟨by have := HI.out; have := HL.out; omega, by have := HI.out; omega⟩, ⟨.inl ⟨rfl, HQ.out⟩⟩, B7⟩
          · obtain ⟨hz, d2, hdue, hcn⟩ := PL.out.2.2 hc0
            subst hz
            have HQ := Aside0.mk hcn
            have mp := MP.out
            clear hc0 MP hcn
            rcases hdue with rfl | ⟨d3, hlast⟩
            ·
              have HFR := Aside0.mk (show 0 ≤ fr ∧ fr < 65536 from HPER.out.2)
              have mp0 := mp
              clear mp0
              go_wp2_with fail
              refine HC.out.mono ?_
              rintro e w7 ⟨rfl, hi, ht⟩
              rw [tick_end] at hi
              have H7 := Aside0.mk hi; have B7 := Aside0.mk (HB.out.trans ht.below); clear hi ht
              go_wp2_with fail
              refine (irq_calls W.heap.size w7 p _ d0 _ H7.out (cS _ _ _ _ _)).mono ?_
              rintro e w8 ⟨rfl, rfl⟩
              rw [irqS]
              have h3 : e3 = 0 ∨ e3 = 1 ∨ e3 = 2 := by have := E3.out; omega
              rcases h3 with rfl | rfl | rfl
              · have HS := Aside0.mk (get_status W.heap.size w7 p _ d0 _ H7.out (oS _ _ _ _ _) (bS _ _ _ _ _) (cS _ _ _ _ _))
                rw [show statA (stA fr fr true true true) d0 = 65 from rfl] at HS
                have k65 : Go.bits .and .u8 65 1 = 1 := by decide
                go_wp2_with fail
                refine HS.out.mono ?_
                rintro e w9 ⟨rfl, hi, ht⟩
                have H9 := Aside0.mk (show Is W.heap.size w9 p (stA fr fr true true false) d0 _ from hi); have B9 := Aside0.mk (B7.out.trans ht.below); clear hi ht
                go_wp2_with fail
                refine (irq_calls W.heap.size w9 p _ d0 _ H9.out (cS _ _ _ _ _)).mono ?_
                rintro e w10 ⟨rfl, rfl⟩
                rw [irqS]
                clear mp
                go_wp2
                go_roundg (gk - 1)
                case measure => have := HI.out; have := HL.out; omega
                case rel => exact ⟨i + 1, true, fr, _, by first | rfl | (congr 1), ⟨H9.out, OK.out⟩, ⟨by have := HI.out; have := HL.out; omega, by have := HI.out; omega⟩, ⟨.inl ⟨rfl, HQ.out, .inl (by first | trivial | rfl)⟩⟩, B9⟩
              · go_wp2_with fail
                refine (put_timer W.heap.size w7 p _ d0 _ H7.out (oS _ _ _ _ _) (bS _ _ _ _ _) 0 ⟨by decide, by decide⟩).mono ?_
                rintro e w9 ⟨rfl, hi, ht⟩
                rw [tim0] at hi
                have H9 := Aside0.mk hi; have B9 := Aside0.mk (B7.out.trans ht.below); clear hi ht
                go_wp2_with fail
                refine (irq_calls W.heap.size w9 p _ d0 _ H9.out (cS _ _ _ _ _)).mono ?_
                rintro e w10 ⟨rfl, rfl⟩
                rw [irqS]
                go_wp2
                go_ret
                exact ⟨rfl, B9.out⟩
              · go_wp2_with fail
                refine (put_open W.heap.size w7 p _ d0 _ H7.out 0 ⟨by decide, by decide⟩).mono ?_
                rintro e w9 ⟨rfl, hi, ht⟩
                rw [shutD0] at hi
                have H9 := Aside0.mk (show Is W.heap.size w9 p (⟨fr, fr, false, true, false, 0, 0, 0, 0, 0, false, false, 32768, 0⟩ : A) d0 _ from hi); have B9 := Aside0.mk (B7.out.trans ht.below); clear hi ht
                go_wp2_with fail
                refine (get_shut W.heap.size w9 p _ d0 _ H9.out ⟨by show (0 : Int) ≤ 0; decide, by show (0 : Int) < 256; decide⟩ rfl 16432 (by decide)).mono ?_
                rintro e w10 ⟨rfl, rfl⟩
                go_wp2_with fail
                refine (irq_calls W.heap.size w9 p _ d0 _ H9.out ⟨by show (0 : Int) ≤ 0; decide, by show (0 : Int) < 256; decide⟩).mono ?_
                rintro e w10 ⟨rfl, rfl⟩
                go_wp2
                go_ret
                exact ⟨rfl, B9.out⟩
            · cases rep
              · have HLA := Aside0.mk hlast
                have HFR := Aside0.mk (show 0 ≤ fr ∧ fr < 65536 from HPER.out.2)
                have mp0 := mp
                clear mp0
                go_wp2_with fail
                refine HC.out.mono ?_
                rintro e w7 ⟨rfl, hi, ht⟩
                rw [tick_end] at hi
                have H7 := Aside0.mk hi; have B7 := Aside0.mk (HB.out.trans ht.below); clear hi ht
                go_wp2_with fail
                refine (irq_calls W.heap.size w7 p _ d0 _ H7.out (cS _ _ _ _ _)).mono ?_
                rintro e w8 ⟨rfl, rfl⟩
                rw [irqS]
                have h3 : e3 = 0 ∨ e3 = 1 ∨ e3 = 2 := by have := E3.out; omega
                rcases h3 with rfl | rfl | rfl
                · have HS := Aside0.mk (get_status W.heap.size w7 p _ d0 _ H7.out (oS _ _ _ _ _) (bS _ _ _ _ _) (cS _ _ _ _ _))
                  rw [show statA (stA fr fr false false true) d0 = 65 from rfl] at HS
                  have k65 : Go.bits .and .u8 65 1 = 1 := by decide
                  go_wp2_with fail
                  refine HS.out.mono ?_
                  rintro e w9 ⟨rfl, hi, ht⟩
                  have H9 := Aside0.mk (show Is W.heap.size w9 p (stA fr fr false false false) d0 _ from hi); have B9 := Aside0.mk (B7.out.trans ht.below); clear hi ht
                  go_wp2_with fail
                  refine (irq_calls W.heap.size w9 p _ d0 _ H9.out (cS _ _ _ _ _)).mono ?_
                  rintro e w10 ⟨rfl, rfl⟩
                  rw [irqS]
                  clear mp
                  go_wp2
                  go_roundg (gk - 1)
                  case measure => have := HI.out; have := HL.out; omega
                  case rel => exact ⟨i + 1, false, fr, _, by first | rfl | (congr 1), ⟨H9.out, OK.out⟩, ⟨by have := HI.out; have := HL.out; omega, by have := HI.out; omega⟩, ⟨.inr ⟨rfl, (by first | trivial | rfl), HLA.out, HFR.out.1, HFR.out.2⟩⟩, B9⟩
                · go_wp2_with fail
                  refine (put_timer W.heap.size w7 p _ d0 _ H7.out (oS _ _ _ _ _) (bS _ _ _ _ _) 0 ⟨by decide, by decide⟩).mono ?_
                  rintro e w9 ⟨rfl, hi, ht⟩
                  rw [tim0] at hi
                  have H9 := Aside0.mk hi; have B9 := Aside0.mk (B7.out.trans ht.below); clear hi ht
                  go_wp2_with fail
                  refine (irq_calls W.heap.size w9 p _ d0 _ H9.out (cS _ _ _ _ _)).mono ?_
                  rintro e w10 ⟨rfl, rfl⟩
                  rw [irqS]
                  go_wp2
                  go_ret
                  exact ⟨rfl, B9.out⟩
                · go_wp2_with fail
                  refine (put_open W.heap.size w7 p _ d0 _ H7.out 0 ⟨by decide, by decide⟩).mono ?_
                  rintro e w9 ⟨rfl, hi, ht⟩
                  rw [shutD0] at hi
                  have H9 := Aside0.mk (show Is W.heap.size w9 p (⟨fr, fr, false, false, false, 0, 0, 0, 0, 0, false, false, 32768, 0⟩ : A) d0 _ from hi); have B9 := Aside0.mk (B7.out.trans ht.below); clear hi ht
                  go_wp2_with fail
                  refine (get_shut W.heap.size w9 p _ d0 _ H9.out ⟨by show (0 : Int) ≤ 0; decide, by show (0 : Int) < 256; decide⟩ rfl 16432 (by decide)).mono ?_
                  rintro e w10 ⟨rfl, rfl⟩
                  go_wp2_with fail
                  refine (irq_calls W.heap.size w9 p _ d0 _ H9.out ⟨by show (0 : Int) ≤ 0; decide, by show (0 : Int) < 256; decide⟩).mono ?_
                  rintro e w10 ⟨rfl, rfl⟩
                  go_wp2
                  go_ret
                  exact ⟨rfl, B9.out⟩
              ·
                have HFR := Aside0.mk (show 0 ≤ fr ∧ fr < 65536 from HPER.out.2)
                have mp0 := mp
                clear mp0
                go_wp2_with fail
                refine HC.out.mono ?_
                rintro e w7 ⟨rfl, hi, ht⟩
                rw [tick_end] at hi
                have H7 := Aside0.mk hi; have B7 := Aside0.mk (HB.out.trans ht.below); clear hi ht
                go_wp2_with fail
                refine (irq_calls W.heap.size w7 p _ d0 _ H7.out (cS _ _ _ _ _)).mono ?_
                rintro e w8 ⟨rfl, rfl⟩
                rw [irqS]
                have h3 : e3 = 0 ∨ e3 = 1 ∨ e3 = 2 := by have := E3.out; omega
                rcases h3 with rfl | rfl | rfl
                · have HS := Aside0.mk (get_status W.heap.size w7 p _ d0 _ H7.out (oS _ _ _ _ _) (bS _ _ _ _ _) (cS _ _ _ _ _))
                  rw [show statA (stA fr fr true true true) d0 = 65 from rfl] at HS
                  have k65 : Go.bits .and .u8 65 1 = 1 := by decide
                  go_wp2_with fail
                  refine HS.out.mono ?_
                  rintro e w9 ⟨rfl, hi, ht⟩
                  have H9 := Aside0.mk (show Is W.heap.size w9 p (stA fr fr true true false) d0 _ from hi); have B9 := Aside0.mk (B7.out.trans ht.below); clear hi ht
                  go_wp2_with fail
                  refine (irq_calls W.heap.size w9 p _ d0 _ H9.out (cS _ _ _ _ _)).mono ?_
                  rintro e w10 ⟨rfl, rfl⟩
                  rw [irqS]
                  clear mp
                  go_wp2
                  go_roundg (gk - 1)
                  case measure => have := HI.out; have := HL.out; omega
                  case rel => exact ⟨i + 1, true, fr, _, by first | rfl | (congr 1), ⟨H9.out, OK.out⟩, ⟨by have := HI.out; have := HL.out; omega, by have := HI.out; omega⟩, ⟨.inl ⟨rfl, HQ.out, .inl (by first | trivial | rfl)⟩⟩, B9⟩
                · go_wp2_with fail
                  refine (put_timer W.heap.size w7 p _ d0 _ H7.out (oS _ _ _ _ _) (bS _ _ _ _ _) 0 ⟨by decide, by decide⟩).mono ?_
                  rintro e w9 ⟨rfl, hi, ht⟩
                  rw [tim0] at hi
                  have H9 := Aside0.mk hi; have B9 := Aside0.mk (B7.out.trans ht.below); clear hi ht
                  go_wp2_with fail
                  refine (irq_calls W.heap.size w9 p _ d0 _ H9.out (cS _ _ _ _ _)).mono ?_
                  rintro e w10 ⟨rfl, rfl⟩
                  rw [irqS]
                  go_wp2
                  go_ret
                  exact ⟨rfl, B9.out⟩
                · go_wp2_with fail
                  refine (put_open W.heap.size w7 p _ d0 _ H7.out 0 ⟨by decide, by decide⟩).mono ?_
                  rintro e w9 ⟨rfl, hi, ht⟩
                  rw [shutD0] at hi
                  have H9 := Aside0.mk (show Is W.heap.size w9 p (⟨fr, fr, false, true, false, 0, 0, 0, 0, 0, false, false, 32768, 0⟩ : A) d0 _ from hi); have B9 := Aside0.mk (B7.out.trans ht.below); clear hi ht
                  go_wp2_with fail
                  refine (get_shut W.heap.size w9 p _ d0 _ H9.out ⟨by show (0 : Int) ≤ 0; decide, by show (0 : Int) < 256; decide⟩ rfl 16432 (by decide)).mono ?_
                  rintro e w10 ⟨rfl, rfl⟩
                  go_wp2_with fail
                  refine (irq_calls W.heap.size w9 p _ d0 _ H9.out ⟨by show (0 : Int) ≤ 0; decide, by show (0 : Int) < 256; decide⟩).mono ?_
                  rintro e w10 ⟨rfl, rfl⟩
                  go_wp2
                  go_ret
                  exact ⟨rfl, B9.out⟩
        · have d2 : (i == per) = false := by rw [beq_eq_false_iff_ne]; omega
          have HC := Aside0.mk (clock0 W.heap.size wr p _ u HR.out.1 ⟨h0, h1⟩ HR.out.2 (HTS.out _ HB.out) HG.out)
          have HPI := Aside0.mk (show per < i + 1 from by omega)
          have HCR := Aside0.mk (And.intro h0 h1)
          have mp := MP.out
          clear hpi h0 h1 MP
          go_wp2_with fail
          refine HC.out.mono ?_
          rintro e w7 ⟨rfl, hi, ht⟩
          rw [tick_off] at hi
          have H7 := Aside0.mk hi; have B7 := Aside0.mk (HB.out.trans ht.below); clear hi ht
          by_cases hd : i % per = 0
          all_goals
            first | have d4 : (i % per == 0) = true := beq_iff_eq.2 hd | have d4 : (i % per == 0) = false := beq_eq_false_iff_ne.2 hd
            clear hd
            go_wp2_with fail
            refine (irq_calls W.heap.size w7 p _ d0 _ H7.out (cS _ _ _ _ _)).mono ?_
            rintro e w8 ⟨rfl, rfl⟩
            rw [irqS]
            clear mp
            go_wp2
            go_roundg (gk - 1)
            case measure => have := HI.out; have := HL.out; omega
            case rel => exact ⟨i + 1, false, c, _, by first | rfl | (congr 1), ⟨H7.out, OK.out⟩, ⟨by have := HI.out; have := HL.out; omega, by have := HI.out; omega⟩, ⟨.inr ⟨rfl, (by first | trivial | rfl), HPI.out, HCR.out.1, HCR.out.2⟩⟩, B7⟩
      · have d1 : decide (i ≤ 1 + n5) = false := decide_eq_false hlt
        clear hlt
        go_wp2
        go_ret
        exact ⟨rfl, HB.out⟩
end Go.Proofs.YtaiaapjlpbhlbaaDoor.Ada

namespace Go.Proofs.YtaiaapjlpbhlbaaDoor.Ada
open Go.RowKit Go.Proofs.YtaiaapjlpbhlbaaDoorW.PrintWords Go.Proofs.YtaiaapjlpbhlbaaDoorW.PrintLast Go.Proofs.YtaiaapjlpbhlbaaDoorW.PrintMore
set_option linter.unusedVariables false
set_option linter.unusedSimpArgs false
set_option maxRecDepth 20000
structure Sep (B : Nat) (p : P) (q : Q) : Prop where
  a1 : p.g < B
  a2 : p.gd < B
  a3 : p.gw < B
  b1 : B ≤ q.g
  b2 : B ≤ q.gd
  b3 : B ≤ q.gw
  v : p.v = .slice none 0 0
theorem Sep.own {B : Nat} {p : P} {q : Q} (h : Sep B p q) (k : Nat) : ¬ p.v.ownBlock = some k := by
  rw [h.v]
  intro e
  cases e
theorem Sep.keepX {B base : Nat} {W W1 : World} {p : P} {q : Q} {a : A} {m : Bool} {u : Wave.V} (s : Sep B p q) (h : IsX base W q a m u) (ht : Drive.Turn base W W1 (Foot p)) : IsX base W1 q a m u := by
  have a1 := s.a1
  have a2 := s.a2
  have a3 := s.a3
  have b1 := s.b1
  have b2 := s.b2
  have b3 := s.b3
  refine h.kept ht ?_ ?_ ?_
  · rintro (e | e | e | e)
    · omega
    · omega
    · omega
    · exact s.own _ e
  · rintro (e | e | e | e)
    · omega
    · omega
    · omega
    · exact s.own _ e
  · rintro (e | e | e | e)
    · omega
    · omega
    · omega
    · exact s.own _ e
theorem Sep.keepP {B base : Nat} {W W1 : World} {p : P} {q : Q} {a : A} {d : Drv.D} {u : Wave.V} (s : Sep B p q) (h : Is base W p a d u) (ht : Drive.Turn base W W1 (FootX q)) : Is base W1 p a d u := by
  have a1 := s.a1
  have a2 := s.a2
  have a3 := s.a3
  have b1 := s.b1
  have b2 := s.b2
  have b3 := s.b3
  refine h.kept ht ?_ ?_ ?_ ?_
  · rintro (e | e | e) <;> omega
  · rintro (e | e | e) <;> omega
  · rintro (e | e | e) <;> omega
  · intro k e
    exact absurd e (s.own k)
def aO (o : Int) : A := ⟨0, 0, false, false, false, o, 0, 0, 0, 0, false, false, 32768, 0⟩
theorem shut_a0 (o : Int) : shutA a0 o = aO o := by
  unfold shutA
  split <;> rfl
theorem shut_d0 (o : Int) : shutD d0 o = d0 := by
  unfold shutD
  split <;> rfl
theorem put_fine {o x b : Int} (ho : U8 o) (hb : U8 b) : Fine (putA (aO o) x b) := by
  have z : U8 0 := ⟨by decide, by decide⟩
  unfold putA
  split
  · exact ⟨ho, z, z, z, by show (0 : Int) ≤ 32768; decide⟩
  · split
    · unfold diskA
      split
      · exact ⟨ho, z, z, z, by show (0 : Int) ≤ 32768; decide⟩
      · split
        · unfold cmdA
          split
          · exact ⟨ho, hb, z, z, by show (0 : Int) ≤ 32768; decide⟩
          · exact ⟨ho, hb, z, z, by show (0 : Int) ≤ 32768; decide⟩
        · split
          · exact ⟨ho, z, z, hb, by show (0 : Int) ≤ 32768; decide⟩
          · exact ⟨ho, z, z, z, by show (0 : Int) ≤ 32768; decide⟩
    · exact ⟨ho, z, z, z, by show (0 : Int) ≤ 32768; decide⟩
theorem put_opn (o x b : Int) : (putA (aO o) x b).opn = o ∧ (putA (aO o) x b).ctl = if bit o 1 = true ∧ x = 16421 then b else 0 := by
  unfold putA
  split
  · rw [if_neg (by omega)]
    exact ⟨rfl, rfl⟩
  · split
    · rename_i h1
      have h1' : bit o 1 = true := h1
      unfold diskA
      split
      · rw [if_neg (by omega)]
        exact ⟨rfl, rfl⟩
      · split
        · rename_i h2
          rw [if_pos ⟨h1', h2⟩]
          unfold cmdA
          split <;> exact ⟨rfl, rfl⟩
        · rename_i h2
          rw [if_neg (show ¬ (bit o 1 = true ∧ x = 16421) from fun e => h2 e.2)]
          split <;> exact ⟨rfl, rfl⟩
    · rename_i h1
      rw [if_neg (fun e => h1 e.1)]
      exact ⟨rfl, rfl⟩
theorem put_side (a : A) (x b : Int) : (putD a d0 x b).side = [] := by
  unfold putD diskD mot
  repeat' split
  all_goals rfl
theorem no_side {d : Drv.D} (h : d.side = []) : Drive.hasB d = false ∧ Drive.readyB d = false := by
  have h1 : Drive.hasB d = false := by unfold Drive.hasB; rw [h]; rfl
  refine ⟨h1, ?_⟩
  unfold Drive.readyB
  rw [h1]
  cases d.motor <;> rfl
theorem put_wf {a : A} {x b : Int} (hb : U8 b) : Wave.Wf (putU a Wave.v0 x b) := by
  unfold putU
  split
  · exact Wave.putV_wf Wave.okv0.wf x b hb
  · exact Wave.okv0.wf
set_option maxHeartbeats 8000000 in
theorem shuts_walk (at_ b : Int) (disk sound : Bool) (W : World) (hm : Wave.MS W) (hts : Wave.TS W) (hgm : 0 < W.heap.size) (hg : 1 < W.heap.size) (hat : 0 ≤ at_ ∧ at_ < 65536) (hb : U8 b) :
    Calls Tryd.prog 4 #[.int .u16 at_, .int .u8 b, .bool disk, .bool sound] W fun e W' => e = .returned (.bool true) ∧ Below W.heap.size W W' := by
  have HMS := Aside0.mk (fun (W1 : World) (hb : Below W.heap.size W W1) => hm.below hb hgm)
  have HAW := Aside0.mk (awake_calls W hts hg)
  have m1 : at_.tmod 112 = at_ % 112 := Int.tmod_eq_emod_of_nonneg hat.1
  obtain ⟨x, hx⟩ : ∃ x, 16420 + at_ % 112 = x := ⟨_, rfl⟩
  have HX0 := Aside0.mk (show 16420 ≤ x ∧ x < 16532 by omega)
  have wx : IntKind.u16.wrap (16420 + at_ % 112) = x := by rw [IntKind.wrap_u16]; omega
  have HB := Aside0.mk hb
  generalize at_ % 112 = r at *
  clear hm hts hgm hg hat hb hx
  go_enter Tryd.func4, Tryd.ntmps4
  go_upto_if 21 with (go_at_call 9; refine HAW.out.mono ?_; rintro e w1 ⟨rfl, hb⟩; have B1 := Aside0.mk hb; clear hb)
  go_cut [9] (fun v9 wc => ∃ o : Int, v9 = .int .u8 o ∧ Aside0 (o = if disk = true then 1 else 0) ∧ Aside0 (Below W.heap.size W wc))
  case first =>
    cases disk
    · go_wp2
      go_meet
      case rel => exact ⟨0, rfl, ⟨rfl⟩, B1⟩
    · have o01 : Go.bits .or .u8 0 1 = 1 := by decide
      go_wp2
      go_meet
      case rel => exact ⟨1, by first | rfl | (congr 1), ⟨rfl⟩, B1⟩
  case rest =>
    obtain ⟨o, rfl, HO, B1'⟩ := hcut
    clear B1
    go_upto_if 24 with fail
    go_cut [9] (fun v9 wc => ∃ o2 : Int, v9 = .int .u8 o2 ∧ Aside0 (U8 o2 ∧ bit o2 1 = disk ∧ bit o2 2 = sound) ∧ Aside0 (Below W.heap.size W wc))
    case first =>
      cases sound
      · go_wp2
        go_meet
        case rel => exact ⟨o, rfl, ⟨by rw [HO.out]; cases disk <;> exact ⟨⟨by decide, by decide⟩, by decide, by decide⟩⟩, B1'⟩
      · have or2 : Go.bits .or .u8 o 2 = o + 2 := by rw [HO.out]; cases disk <;> decide
        go_wp2
        go_meet
        case rel => exact ⟨o + 2, by first | rfl | (congr 1), ⟨by rw [HO.out]; cases disk <;> exact ⟨⟨by decide, by decide⟩, by decide, by decide⟩⟩, B1'⟩
    case rest =>
      obtain ⟨o2, rfl, HO2, B2⟩ := hcut
      clear B1' HO
      go_wp2_with fail
      refine (newA_calls W.heap.size wc B2.out.size).mono ?_
      rintro e w3 ⟨p, rfl, hi, hb, _, _, _, hv⟩
      have H3 := Aside0.mk hi; have B3 := Aside0.mk (B2.out.trans (hb.mono B2.out.size)); have V3 := Aside0.mk hv; clear hi hb hv
      go_wp2_with fail
      refine (newX_calls W.heap.size w3 B3.out.size).mono ?_
      rintro e w4 ⟨q, rfl, hx, hb, g1, g2, g3⟩
      have SP := Aside0.mk (show Sep w3.heap.size p q from ⟨H3.out.at_.lt, H3.out.dr.1.lt, H3.out.wv.at_.lt, g1, g2, g3, V3.out⟩)
      have H4 := Aside0.mk (H3.out.below hb); have X4 := Aside0.mk hx; have B4 := Aside0.mk (B3.out.trans (hb.mono B3.out.size)); clear hx hb g1 g2 g3
      clear H3 B3 V3
      generalize w3.heap.size = bb at *
      have wo1 : wrap64 o2 = o2 := Wave.wr64 (by have := HO2.out.1.1; omega) (by have := HO2.out.1.2; omega)
      have wo2 : IntKind.i64.wrap o2 = o2 := by have := HO2.out.1.1; have := HO2.out.1.2; rw [IntKind.wrap_i64]; omega
      have wb1 : wrap64 b = b := Wave.wr64 (by have := HB.out.1; omega) (by have := HB.out.2; omega)
      have wb2 : IntKind.i64.wrap b = b := by have := HB.out.1; have := HB.out.2; rw [IntKind.wrap_i64]; omega
      have wx1 : wrap64 x = x := Wave.wr64 (by have := HX0.out; omega) (by have := HX0.out; omega)
      have wx2 : IntKind.i64.wrap x = x := by have := HX0.out; rw [IntKind.wrap_i64]; omega
      go_wp2_with fail
      refine (put_open W.heap.size w4 p a0 d0 Wave.v0 H4.out o2 HO2.out.1).mono ?_
      rintro e w5 ⟨rfl, hi, ht⟩
      rw [shut_a0, shut_d0] at hi
      have H5 := Aside0.mk hi; have X5 := Aside0.mk (SP.out.keepX X4.out ht); have B5 := Aside0.mk (B4.out.trans ht.below); clear hi ht
      go_wp2_with fail
      refine (put18_open W.heap.size w5 q a0 false Wave.v0 X5.out o2 HO2.out.1).mono ?_
      rintro e w6 ⟨rfl, hx, ht⟩
      rw [shut_a0, show (if bit o2 1 = true then false else false) = false by split <;> rfl] at hx
      have X6 := Aside0.mk hx; have H6 := Aside0.mk (SP.out.keepP H5.out ht); have B6 := Aside0.mk (B5.out.trans ht.below); clear hx ht
      go_wp2_with fail
      refine (put_calls W.heap.size w6 p (aO o2) d0 Wave.v0 H6.out HO2.out.1 Wave.okv0.wf (HMS.out _ B6.out) x b ⟨by have := HX0.out; omega, by have := HX0.out; omega⟩ HB.out).mono ?_
      rintro e w7 ⟨rfl, hi, ht⟩
      have H7 := Aside0.mk hi; have X7 := Aside0.mk (SP.out.keepX X6.out ht); have B7 := Aside0.mk (B6.out.trans ht.below); clear hi ht
      go_wp2_with fail
      refine (put18_calls W.heap.size w7 q (aO o2) false Wave.v0 X7.out HO2.out.1 Wave.okv0.wf x b ⟨by have := HX0.out; omega, by have := HX0.out; omega⟩ HB.out).mono ?_
      rintro e w8 ⟨rfl, hx, ht⟩
      have X8 := Aside0.mk hx; have H8 := Aside0.mk (SP.out.keepP H7.out ht); have B8 := Aside0.mk (B7.out.trans ht.below); clear hx ht
      have FN := Aside0.mk (put_fine (x := x) HO2.out.1 HB.out)
      have OP := Aside0.mk (put_opn o2 x b)
      have ND := Aside0.mk (no_side (put_side (aO o2) x b))
      have WF := Aside0.mk (put_wf (a := aO o2) (x := x) HB.out)
      clear H4 X4 B4 H5 X5 B5 H6 X6 B6 H7 X7 B7 B2
      generalize putA (aO o2) x b = a2 at *
      generalize putD (aO o2) d0 x b = d2 at *
      generalize putU (aO o2) Wave.v0 x b = u2 at *
      generalize putM (aO o2) false x b = m2 at *
      go_wp2_with fail
      go_loopg [46] 116 (fun kq v46 w' => ∃ (k : Int) (a : A), v46 = .int .u16 k ∧ Aside0 (Is W.heap.size w' p a d2 u2 ∧ IsX W.heap.size w' q a m2 u2 ∧ Fine a ∧ a.opn = o2 ∧ a.ctl = a2.ctl) ∧ Aside0 (k + kq = 116 ∧ 0 ≤ k) ∧ Aside0 (Below W.heap.size W w'))
      case atStart => exact ⟨0, a2, rfl, ⟨H8.out, X8.out, FN.out, OP.out.1, rfl⟩, ⟨by decide, by decide⟩, B8⟩
      case round =>
        clear H8 X8 B8
        obtain ⟨k, a, rfl, HR, HK, HBL⟩ := hrel
        by_cases hk : k < 116
        · have d1 : decide (k < 116) = true := decide_eq_true hk
          have wk : IntKind.u16.wrap (k + 1) = k + 1 := by have := HK.out; rw [IntKind.wrap_u16]; omega
          have wk2 : IntKind.u16.wrap (16416 + k) = 16416 + k := by have := HK.out; rw [IntKind.wrap_u16]; omega
          have wk3 : wrap64 k = k := Wave.wr64 (by have := HK.out; omega) (by have := HK.out; omega)
          have wk4 : IntKind.i64.wrap k = k := by have := HK.out; rw [IntKind.wrap_i64]; omega
          have wk5 : wrap64 (16416 + k) = 16416 + k := Wave.wr64 (by have := HK.out; omega) (by have := HK.out; omega)
          have HKK := Aside0.mk hk
          have HG := Aside0.mk (get_calls W.heap.size wr p a d2 u2 HR.out.1 HR.out.2.2.1 WF.out ND.out (16416 + k) ⟨by have := HK.out; omega, by omega⟩)
          have HGX := Aside0.mk (fun (W1 : World) (h1 : IsX W.heap.size W1 q a m2 u2) => get18_calls W.heap.size W1 q a m2 u2 h1 HR.out.2.2.1 WF.out (16416 + k) ⟨by have := HK.out; omega, by omega⟩)
          have RNG := Aside0.mk (getN_range HR.out.2.2.1 WF.out (16416 + k))
          have FS := Aside0.mk (getS_fine HR.out.2.2.1 (16416 + k))
          have GO := Aside0.mk (show (getS a (16416 + k)).opn = o2 ∧ (getS a (16416 + k)).ctl = a2.ctl from ⟨(getS_opn a (16416 + k)).1.trans HR.out.2.2.2.1, (getS_opn a (16416 + k)).2.trans HR.out.2.2.2.2⟩)
          have HD := Aside0.mk (show 0 ≤ getN a u2 (16416 + k) → (k < 32 → disk = true) ∧ (32 ≤ k → sound = true) from fun h0 => ⟨fun hlt => by have h := (RNG.out.2.2 h0).1 (by omega); rw [HR.out.2.2.2.1, HO2.out.2.1] at h; exact h, fun hge => by have h := (RNG.out.2.2 h0).2 (by omega); rw [HR.out.2.2.2.1, HO2.out.2.2] at h; exact h⟩)
          generalize getN a u2 (16416 + k) = n at *
          generalize getS a (16416 + k) = a' at *
          clear hk
          have n3 : n = -1 ∨ n = 0 ∨ 0 < n := by have := RNG.out; omega
          rcases n3 with n3 | n3
          · have hpb : posB n = (0, false) := by rw [n3]; rfl
            rw [hpb] at HG
            have p1 : decide (0 ≤ n) = false := decide_eq_false (by omega)
            have pm : max n 0 = 0 := by omega
            have p2 : (if n ≤ 0 then 0 else n) = 0 := by split <;> omega
            clear hpb n3
            go_wp2_with fail
            refine HG.out.mono ?_
            rintro e w9 ⟨rfl, hi, ht⟩
            have H9 := Aside0.mk hi; have X9 := Aside0.mk (SP.out.keepX HR.out.2.1 ht); have B9 := Aside0.mk (HBL.out.trans ht.below); clear hi ht
            go_wp2_with fail
            refine (HGX.out _ X9.out).mono ?_
            rintro e w10 ⟨rfl, hx, ht⟩
            have X10 := Aside0.mk hx; have H10 := Aside0.mk (SP.out.keepP H9.out ht); have B10 := Aside0.mk (B9.out.trans ht.below); clear hx ht
            go_wp2
            go_roundg (gk - 1)
            case measure => have := HK.out; have := HKK.out; omega
            case rel => exact ⟨k + 1, a', by first | rfl | (congr 1), ⟨H10.out, X10.out, FS.out, GO.out.1, GO.out.2⟩, ⟨by have := HK.out; have := HKK.out; omega, by have := HK.out; omega⟩, B10⟩
          · have hpos : 0 ≤ n := by omega
            have hpb : posB n = (n, true) := if_neg (by omega)
            rw [hpb] at HG
            have wn1 : wrap64 n = n := Wave.wr64 (by omega) (by have := RNG.out; omega)
            have wn2 : IntKind.i64.wrap n = n := by have := RNG.out; rw [IntKind.wrap_i64]; omega
            have p1 : decide (0 ≤ n) = true := decide_eq_true hpos
            have pm : max n 0 = n := by omega
            have hdd := HD.out hpos
            have p2 : (if n ≤ 0 then 0 else n) = n := by split <;> omega
            clear hpb n3 hpos
            by_cases h32 : k < 32
            · have e1 : decide (k < 32) = true := decide_eq_true h32
              have e2 : decide (32 ≤ k) = false := decide_eq_false (by omega)
              have hdk : disk = true := hdd.1 h32
              subst hdk
              clear h32 hdd
              go_wp2_with fail
              refine HG.out.mono ?_
              rintro e w9 ⟨rfl, hi, ht⟩
              have H9 := Aside0.mk hi; have X9 := Aside0.mk (SP.out.keepX HR.out.2.1 ht); have B9 := Aside0.mk (HBL.out.trans ht.below); clear hi ht
              go_wp2_with fail
              refine (HGX.out _ X9.out).mono ?_
              rintro e w10 ⟨rfl, hx, ht⟩
              have X10 := Aside0.mk hx; have H10 := Aside0.mk (SP.out.keepP H9.out ht); have B10 := Aside0.mk (B9.out.trans ht.below); clear hx ht
              go_wp2
              go_roundg (gk - 1)
              case measure => have := HK.out; have := HKK.out; omega
              case rel => exact ⟨k + 1, a', by first | rfl | (congr 1), ⟨H10.out, X10.out, FS.out, GO.out.1, GO.out.2⟩, ⟨by have := HK.out; have := HKK.out; omega, by have := HK.out; omega⟩, B10⟩
            · have e1 : decide (k < 32) = false := decide_eq_false h32
              have e2 : decide (32 ≤ k) = true := decide_eq_true (by omega)
              have hsd : sound = true := hdd.2 (by omega)
              subst hsd
              clear h32 hdd
              go_wp2_with fail
              refine HG.out.mono ?_
              rintro e w9 ⟨rfl, hi, ht⟩
              have H9 := Aside0.mk hi; have X9 := Aside0.mk (SP.out.keepX HR.out.2.1 ht); have B9 := Aside0.mk (HBL.out.trans ht.below); clear hi ht
              go_wp2_with fail
              refine (HGX.out _ X9.out).mono ?_
              rintro e w10 ⟨rfl, hx, ht⟩
              have X10 := Aside0.mk hx; have H10 := Aside0.mk (SP.out.keepP H9.out ht); have B10 := Aside0.mk (B9.out.trans ht.below); clear hx ht
              go_wp2
              go_roundg (gk - 1)
              case measure => have := HK.out; have := HKK.out; omega
              case rel => exact ⟨k + 1, a', by first | rfl | (congr 1), ⟨H10.out, X10.out, FS.out, GO.out.1, GO.out.2⟩, ⟨by have := HK.out; have := HKK.out; omega, by have := HK.out; omega⟩, B10⟩
        · have d1 : decide (k < 116) = false := decide_eq_false hk
          clear hk
          have HU := Aside0.mk (upright_calls W.heap.size wr p a d2 u2 HR.out.1 HR.out.2.2.1.ctl)
          have hct : a.ctl = if bit o2 1 = true ∧ x = 16421 then b else 0 := HR.out.2.2.2.2.trans OP.out.2
          rw [HO2.out.2.1] at hct
          by_cases hdk : disk = true ∧ x = 16421
          · rw [if_pos hdk] at hct
            rw [hct] at HU
            obtain ⟨rfl, hr1⟩ := hdk
            have t5 : (x == 16421) = true := beq_iff_eq.2 hr1
            have t6 : (x != 16421) = false := by rw [bne, t5]; rfl
            have a8 := and_bit b HB.out 8 (by decide)
            cases h8 : bit b 8
            · rw [h8] at a8 HU
              have a9 : Go.bits .and .u8 b 8 = 0 := a8
              clear h8 hr1 hct a8
              go_wp2_with fail
              refine HU.out.mono ?_
              rintro e w9 ⟨rfl, rfl⟩
              go_wp2
              go_ret
              exact ⟨by first | rfl | simp, HBL.out⟩
            · rw [h8] at a8 HU
              have a9 : Go.bits .and .u8 b 8 = 8 := a8
              clear h8 hr1 hct a8
              go_wp2_with fail
              refine HU.out.mono ?_
              rintro e w9 ⟨rfl, rfl⟩
              go_wp2
              go_ret
              exact ⟨by first | rfl | simp, HBL.out⟩
          · rw [if_neg hdk] at hct
            rw [hct, show (!bit 0 8) = true from rfl] at HU
            cases disk
            · clear hdk hct
              go_wp2_with fail
              refine HU.out.mono ?_
              rintro e w9 ⟨rfl, rfl⟩
              go_wp2
              go_ret
              exact ⟨by first | rfl | simp, HBL.out⟩
            · have t5 : (x == 16421) = false := beq_eq_false_iff_ne.2 (fun e => hdk ⟨rfl, e⟩)
              have t6 : (x != 16421) = true := by rw [bne, t5]; rfl
              clear hdk hct
              go_wp2_with fail
              refine HU.out.mono ?_
              rintro e w9 ⟨rfl, rfl⟩
              go_wp2
              go_ret
              exact ⟨by first | rfl | simp, HBL.out⟩
end Go.Proofs.YtaiaapjlpbhlbaaDoor.Ada
