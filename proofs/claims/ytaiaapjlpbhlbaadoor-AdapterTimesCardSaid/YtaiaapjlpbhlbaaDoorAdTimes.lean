/-
  AdapterTimes: the timer. By the prover of this repo.
-/
import Derived.Test.YtaiaapjlpbhlbaaDoorAdE
namespace Go.Proofs.YtaiaapjlpbhlbaaDoor.Ada
open Go.RowKit Go.Proofs.YtaiaapjlpbhlbaaDoorW.PrintWords Go.Proofs.YtaiaapjlpbhlbaaDoorW.PrintLast Go.Proofs.YtaiaapjlpbhlbaaDoorW.PrintMore
set_option linter.unusedVariables false
set_option linter.unusedSimpArgs false
set_option maxRecDepth 20000
theorem clock0 (base : Nat) (W : World) (p : P) (a : A) (u : Wave.V) (h : Is base W p a d0 u) (hc : 0 ≤ a.count ∧ a.count < 65536) (hu : Wave.Okv u) (hts : Wave.TS W) (hgb : 1 < base) :
    Calls Tryd.prog 12 #[.pointer (some ⟨p.g, 0, none⟩)] W fun e W' => e = .returned (.tuple #[]) ∧ Is base W' p (tick a) d0 (Wave.clockV u) ∧ Turn base W W' (Foot p) := by
  have h1 := clock_none base W p a d0 u h hc hu hts hgb ⟨by decide, by decide, by decide, by decide⟩ rfl
  rwa [show (Drv.clk d0).1 = d0 from rfl] at h1
def stA (fr c : Int) (on rep exp : Bool) : A := ⟨fr, c, on, rep, exp, 1, 0, 0, 0, 0, false, false, 32768, 0⟩
theorem open0 : shutA a0 1 = stA 0 0 false false false := rfl
theorem shutD1 : shutD d0 1 = d0 := rfl
theorem shutD0 : shutD d0 0 = d0 := rfl
theorem tim2 (fr c : Int) (on rep exp : Bool) : timA (stA fr c on rep exp) 2 = stA fr fr true false exp := rfl
theorem tim3 (fr c : Int) (on rep exp : Bool) : timA (stA fr c on rep exp) 3 = stA fr fr true true exp := rfl
theorem tim0 (fr c : Int) (on rep exp : Bool) : timA (stA fr c on rep exp) 0 = stA fr c false false false := rfl
theorem tick_off (fr c : Int) (rep exp : Bool) : tick (stA fr c false rep exp) = stA fr c false rep exp := rfl
theorem tick_on {fr c : Int} (h : 0 < c) (rep exp : Bool) : tick (stA fr c true rep exp) = stA fr (c - 1) true rep exp := by
  unfold tick stA
  rw [if_neg (by simp), if_pos h]
theorem tick_end (fr : Int) (rep exp : Bool) : tick (stA fr 0 true rep exp) = stA fr fr rep rep true := rfl
theorem irqS (fr c : Int) (on rep exp : Bool) : irqB (stA fr c on rep exp) = exp := by cases exp <;> rfl
theorem oS (fr c : Int) (on rep exp : Bool) : U8 (stA fr c on rep exp).opn := ⟨by show (0 : Int) ≤ 1; decide, by show (1 : Int) < 256; decide⟩
theorem cS (fr c : Int) (on rep exp : Bool) : U8 (stA fr c on rep exp).ctl := ⟨by show (0 : Int) ≤ 0; decide, by show (0 : Int) < 256; decide⟩
theorem bS (fr c : Int) (on rep exp : Bool) : bit (stA fr c on rep exp).opn 1 = true := rfl
theorem next_mod (x p : Int) (hp : 0 < p) : (x + 1) % p = if x % p + 1 = p then 0 else x % p + 1 := by
  have h := Int.emod_add_mul_ediv x p
  have h0 := Int.emod_nonneg x (show p ≠ 0 by omega)
  have h1 := Int.emod_lt_of_pos x hp
  have e : (x + 1) % p = (x % p + 1) % p := by
    conv => lhs; rw [← h]
    rw [show x % p + p * (x / p) + 1 = x % p + 1 + p * (x / p) by omega, Int.add_mul_emod_self_left]
  rw [e]
  split
  · rename_i hh; rw [hh, Int.emod_self]
  · exact Int.emod_eq_of_lt (by omega) (by omega)
theorem plan (fr per c i : Int) (rep : Bool) (hp : per = fr + 1 ∧ 0 ≤ fr ∧ fr < 65536) (hi : 1 ≤ i) (hc : c = fr - (i - 1) % per) (hr : rep = true ∨ i ≤ per) :
    (0 ≤ c ∧ c < 65536) ∧ (0 < c → (i % per == 0) = false ∧ c - 1 = fr - (i + 1 - 1) % per ∧ (rep = true ∨ i + 1 ≤ per)) ∧ (¬ 0 < c → c = 0 ∧ (i % per == 0) = true ∧ (rep = true ∨ (i == per) = true ∧ per < i + 1) ∧ fr = fr - (i + 1 - 1) % per) := by
  obtain ⟨hp1, hp2, hp3⟩ := hp
  have nm := next_mod (i - 1) per (by omega)
  rw [show (i - 1 + 1 : Int) = i by omega] at nm
  rw [show (i + 1 - 1 : Int) = i by omega]
  have q0 := Int.emod_nonneg (i - 1) (show per ≠ 0 by omega)
  have q1 := Int.emod_lt_of_pos (i - 1) (show 0 < per by omega)
  have q2 : i ≤ per → (i - 1) % per = i - 1 := fun h => Int.emod_eq_of_lt (by omega) (by omega)
  generalize (i - 1) % per = q at *
  refine ⟨by omega, fun h => ?_, fun h => ?_⟩
  · rw [if_neg (by omega)] at nm
    refine ⟨by rw [beq_eq_false_iff_ne, nm]; omega, by rw [nm]; omega, hr.imp id (fun h => by have := q2 h; omega)⟩
  · rw [if_pos (by omega)] at nm
    refine ⟨by omega, by rw [nm]; rfl, hr.imp id (fun h => by have := q2 h; exact ⟨beq_iff_eq.2 (by omega), by omega⟩), by rw [nm]; omega⟩
set_option maxHeartbeats 8000000 in
theorem awake_calls (W : World) (hts : Wave.TS W) (hg : 1 < W.heap.size) :
    Calls Tryd.prog 9 #[] W fun e W' => e = .returned (.bool true) ∧ Below W.heap.size W W' := by
  have HTS := Aside0.mk (fun (W1 : World) (hb : Below W.heap.size W W1) => hts.below hb hg)
  have HG := Aside0.mk hg
  clear hts hg
  go_enter Tryd.func9, Tryd.ntmps9
  go_wp2_with fail
  refine (newA_calls W.heap.size W (Nat.le_refl _)).mono ?_
  rintro e w1 ⟨p, rfl, hi, hb, _, _, _, _⟩
  have H1 := Aside0.mk hi; have B1 := Aside0.mk hb; clear hi hb
  go_wp2_with fail
  refine (put_open W.heap.size w1 p a0 d0 Wave.v0 H1.out 1 ⟨by decide, by decide⟩).mono ?_
  rintro e w2 ⟨rfl, hi, ht⟩
  rw [open0, shutD1] at hi
  have H2 := Aside0.mk hi; have B2 := Aside0.mk (B1.out.trans ht.below); clear hi ht
  go_wp2_with fail
  refine (put_low W.heap.size w2 p _ d0 Wave.v0 H2.out 5 ⟨by decide, by decide⟩ rfl).mono ?_
  rintro e w3 ⟨rfl, hi, ht⟩
  have H3 := Aside0.mk (show Is W.heap.size w3 p (stA 5 0 false false false) d0 Wave.v0 from hi); have B3 := Aside0.mk (B2.out.trans ht.below); clear hi ht
  go_wp2_with fail
  refine (put_timer W.heap.size w3 p _ d0 Wave.v0 H3.out ⟨by decide, by decide⟩ (by decide) 2 ⟨by decide, by decide⟩).mono ?_
  rintro e w4 ⟨rfl, hi, ht⟩
  rw [tim2] at hi
  have H4 := Aside0.mk hi; have B4 := Aside0.mk (B3.out.trans ht.below); clear hi ht
  go_wp2_with fail
  go_loopg [10] 5 (fun kq v10 w' => ∃ (i : Int) (u : Wave.V), v10 = .int .i64 i ∧ Aside0 (Is W.heap.size w' p (stA 5 (5 - i) true false false) d0 u ∧ Wave.Okv u) ∧ Aside0 (i + kq = 5 ∧ 0 ≤ i) ∧ Aside0 (Below W.heap.size W w'))
  case atStart => exact ⟨0, Wave.v0, rfl, ⟨H4.out, Wave.okv0⟩, ⟨by decide, by decide⟩, B4⟩
  case round =>
    clear H1 H2 H3 H4 B1 B2 B3 B4
    obtain ⟨i, u, rfl, HR, HI, HB⟩ := hrel
    by_cases hlt : i < 5
    · have d1 : decide (i < 5) = true := decide_eq_true hlt
      have e1 : wrap64 (i + 1) = i + 1 := Wave.wr64 (by have := HI.out; omega) (by omega)
      have HC := Aside0.mk (clock0 W.heap.size wr p _ u HR.out.1 ⟨by show 0 ≤ 5 - i; omega, by show 5 - i < 65536; have := HI.out; omega⟩ HR.out.2 (HTS.out _ HB.out) HG.out)
      have HE := Aside0.mk (tick_on (fr := 5) (c := 5 - i) (by omega) false false)
      have HL := Aside0.mk hlt
      clear hlt
      go_wp2_with fail
      refine HC.out.mono ?_
      rintro e w5 ⟨rfl, hi, ht⟩
      rw [HE.out, show (5 - i - 1 : Int) = 5 - (i + 1) by omega] at hi
      have H5 := Aside0.mk hi; have B5 := Aside0.mk (HB.out.trans ht.below); clear hi ht
      go_wp2
      go_roundg (gk - 1)
      case measure => have := HI.out; have := HL.out; omega
      case rel => exact ⟨i + 1, _, by first | rfl | (congr 1), ⟨H5.out, Wave.clockV_ok HR.out.2⟩, ⟨by have := HI.out; have := HL.out; omega, by have := HI.out; omega⟩, B5⟩
    · have d1 : decide (i < 5) = false := decide_eq_false hlt
      have hi5 : i = 5 := by have := HI.out; omega
      subst hi5
      clear hlt d1
      go_wp2_with fail
      refine (irq_calls W.heap.size wr p _ d0 u HR.out.1 ⟨by decide, by decide⟩).mono ?_
      rintro e w5 ⟨rfl, rfl⟩
      rw [irqS]
      go_wp2_with fail
      refine (clock0 W.heap.size wr p _ u HR.out.1 ⟨by decide, by decide⟩ HR.out.2 (HTS.out _ HB.out) HG.out).mono ?_
      rintro e w6 ⟨rfl, hi, ht⟩
      rw [show tick (stA 5 (5 - 5) true false false) = stA 5 5 false false true from rfl] at hi
      have H6 := Aside0.mk hi; have B6 := Aside0.mk (HB.out.trans ht.below); clear hi ht
      go_wp2_with fail
      refine (irq_calls W.heap.size w6 p _ d0 _ H6.out ⟨by decide, by decide⟩).mono ?_
      rintro e w7 ⟨rfl, rfl⟩
      rw [irqS]
      go_wp2
      go_ret
      exact ⟨rfl, B6.out⟩
set_option maxHeartbeats 8000000 in
theorem times_walk (lo hi : Int) (rep : Bool) (n e : Int) (W : World) (hm : Wave.MS W) (hts : Wave.TS W) (hgm : 0 < W.heap.size) (hg : 1 < W.heap.size) (hlo : U8 lo) (hhi : U8 hi) (hn : 0 ≤ n ∧ n < 65536) (he : U8 e) :
    Calls Tryd.prog 3 #[.int .u8 lo, .int .u8 hi, .bool rep, .int .u16 n, .int .u8 e] W fun e W' => e = .returned (.bool true) ∧ Below W.heap.size W W' := by
  have HTS := Aside0.mk (fun (W1 : World) (hb : Below W.heap.size W W1) => hts.below hb hg)
  have HG := Aside0.mk hg
  have HAW := Aside0.mk (awake_calls W hts hg)
  obtain ⟨lo0, lo1⟩ := hlo
  obtain ⟨hi0, hi1⟩ := hhi
  have m1 : hi.tmod 4 = hi % 4 := Int.tmod_eq_emod_of_nonneg hi0
  have m2 : n.tmod 5000 = n % 5000 := Int.tmod_eq_emod_of_nonneg hn.1
  have m3 : e.tmod 3 = e % 3 := Int.tmod_eq_emod_of_nonneg he.1
  have h40 : 0 ≤ hi % 4 := by omega
  have h41 : hi % 4 < 4 := by omega
  have n50 : 0 ≤ n % 5000 := by omega
  have n51 : n % 5000 < 5000 := by omega
  have e30 : 0 ≤ e % 3 := by omega
  have e31 : e % 3 < 3 := by omega
  have wn1 : wrap64 n = n := Wave.wr64 (by omega) (by omega)
  have wn2 : IntKind.i64.wrap n = n := by rw [IntKind.wrap_i64]; omega
  have wl1 : wrap64 lo = lo := Wave.wr64 (by omega) (by omega)
  have wl2 : IntKind.i64.wrap lo = lo := by rw [IntKind.wrap_i64]; omega
  generalize hi % 4 = h4 at *
  generalize n % 5000 = n5 at *
  generalize e % 3 = e3 at *
  have wh1 : wrap64 h4 = h4 := Wave.wr64 (by omega) (by omega)
  have wh2 : IntKind.i64.wrap h4 = h4 := by rw [IntKind.wrap_i64]; omega
  have wp1 : wrap64 (1 + lo) = 1 + lo := Wave.wr64 (by omega) (by omega)
  have wp2 : wrap64 (256 * h4) = 256 * h4 := Wave.wr64 (by omega) (by omega)
  have wp3 : wrap64 (1 + lo + 256 * h4) = 1 + lo + 256 * h4 := Wave.wr64 (by omega) (by omega)
  have wn5 : wrap64 (1 + n5) = 1 + n5 := Wave.wr64 (by omega) (by omega)
  have U4 := Aside0.mk (show U8 h4 from ⟨by omega, by omega⟩)
  have UL := Aside0.mk (show U8 lo from ⟨lo0, lo1⟩)
  have N5 := Aside0.mk (And.intro n50 n51)
  have E3 := Aside0.mk (And.intro e30 e31)
  clear hts hg hm hgm hn he lo0 lo1 hi0 hi1 h40 h41 n50 n51 e30 e31
  go_enter Tryd.func3, Tryd.ntmps3
  go_wp2_with (go_at_call 9; refine HAW.out.mono ?_; rintro e w1 ⟨rfl, hb⟩; have B1 := Aside0.mk hb; clear hb)
  refine (newA_calls W.heap.size w1 B1.out.size).mono ?_
  rintro e w2 ⟨p, rfl, hi, hb, _, _, _, _⟩
  have H2 := Aside0.mk hi; have B2 := Aside0.mk (B1.out.trans (hb.mono B1.out.size)); clear hi hb
  go_wp2_with fail
  refine (put_low W.heap.size w2 p _ d0 Wave.v0 H2.out lo UL.out rfl).mono ?_
  rintro e w3 ⟨rfl, hi, ht⟩
  have H3 := Aside0.mk hi; have B3 := Aside0.mk (B2.out.trans ht.below); clear hi ht
  go_wp2_with fail
  refine (put_high W.heap.size w3 p _ d0 Wave.v0 H3.out h4 U4.out UL.out).mono ?_
  rintro e w4 ⟨rfl, hi, ht⟩
  have H4 := Aside0.mk hi; have B4 := Aside0.mk (B3.out.trans ht.below); clear hi ht
  go_wp2_with fail
  refine (put_open W.heap.size w4 p _ d0 Wave.v0 H4.out 1 ⟨by decide, by decide⟩).mono ?_
  rintro e w5 ⟨rfl, hi, ht⟩
  have H5 := Aside0.mk (show Is W.heap.size w5 p (stA (lo + h4 * 256) 0 false false false) d0 Wave.v0 from hi); have B5 := Aside0.mk (B4.out.trans ht.below); clear hi ht
  have HRP := Aside0.mk (fun (b : Int) (hb : U8 b) => put_timer W.heap.size w5 p _ d0 Wave.v0 H5.out (oS _ _ _ _ _) (bS _ _ _ _ _) b hb)
  go_upto_if 33 with fail
  go_cut [12] (fun v12 wc => ∃ b2 : Int, v12 = .int .u8 b2 ∧ Aside0 (b2 = if rep = true then 3 else 2) ∧ wc = w5)
  case first =>
    cases rep
    · go_wp2
      go_meet
      case rel => exact ⟨_, rfl, ⟨rfl⟩, rfl⟩
    · go_wp2
      go_meet
      case rel => exact ⟨_, rfl, ⟨rfl⟩, rfl⟩
  case rest =>
    obtain ⟨b2, rfl, HB2, hw5⟩ := hcut
    subst hw5
    clear B1 B2 B3 B4 H2 H3 H4
    have hb3 : U8 b2 := by rw [HB2.out]; split <;> exact ⟨by decide, by decide⟩
    have HP := Aside0.mk (HRP.out _ hb3)
    have HE := Aside0.mk (show timA (stA (lo + h4 * 256) 0 false false false) b2 = stA (lo + h4 * 256) (lo + h4 * 256) true rep false from by rw [HB2.out]; cases rep <;> rfl)
    rw [HE.out] at HP
    clear HRP hb3
    have U4' := U4.out
    have UL' := UL.out
    obtain ⟨x0, x1⟩ := U4'
    obtain ⟨y0, y1⟩ := UL'
    have HPER := Aside0.mk (show 1 + lo + 256 * h4 = lo + h4 * 256 + 1 ∧ 0 ≤ lo + h4 * 256 ∧ lo + h4 * 256 < 65536 from ⟨by omega, by omega, by omega⟩)
    clear x0 x1 y0 y1
    go_wp2_with fail
    refine HP.out.mono ?_
    rintro e w6 ⟨rfl, hi, ht⟩
    have H6 := Aside0.mk hi; have B6 := Aside0.mk (B5.out.trans ht.below); clear hi ht
    go_wp2_with fail
    clear H5 B5 HE HP
    generalize 1 + lo + 256 * h4 = per at *
    generalize lo + h4 * 256 = fr at *
    rw [wp3, wp1, wp2]
    go_loopg [14] (n5 + 1).toNat (fun kq v14 w' => ∃ (i : Int) (on : Bool) (c : Int) (u : Wave.V), v14 = .int .i64 i ∧ Aside0 (Is W.heap.size w' p (stA fr c on rep false) d0 u ∧ Wave.Okv u) ∧ Aside0 (i + kq = n5 + 2 ∧ 1 ≤ i) ∧ Aside0 (on = true ∧ c = fr - (i - 1) % per ∧ (rep = true ∨ i ≤ per) ∨ on = false ∧ rep = false ∧ per < i ∧ 0 ≤ c ∧ c < 65536) ∧ Aside0 (Below W.heap.size W w'))
    case atStart => exact ⟨1, true, fr, Wave.v0, rfl, ⟨H6.out, Wave.okv0⟩, ⟨by have := N5.out; omega, by decide⟩, ⟨.inl ⟨rfl, by show fr = fr - 0 % per; rw [Int.zero_emod]; omega, .inr (by have := HPER.out; omega)⟩⟩, B6⟩
    case round =>
      clear H6 B6
      obtain ⟨i, on, c, u, rfl, HR, HI, HJ, HB⟩ := hrel
      by_cases hlt : i ≤ 1 + n5
      · have d1 : decide (i ≤ 1 + n5) = true := decide_eq_true hlt
        have e1 : wrap64 (i + 1) = i + 1 := Wave.wr64 (by have := HI.out.2; omega) (by have := N5.out; omega)
        have MP := Aside0.mk (show i.tmod per = i % per from Int.tmod_eq_emod_of_nonneg (by have := HI.out.2; omega))
        have zp : (per == 0) = false := by have := HPER.out; rw [beq_eq_false_iff_ne]; omega
        have zq := eq_false (show ¬ per = 0 by have := HPER.out; omega)
        have HL := Aside0.mk hlt
        have OK := Aside0.mk (Wave.clockV_ok HR.out.2)
        clear hlt
        rcases HJ.out with ⟨rfl, hc, hr⟩ | ⟨rfl, rfl, hpi, h0, h1⟩
        · have PL := Aside0.mk (plan fr per c i rep HPER.out HI.out.2 hc hr)
          have HC := Aside0.mk (clock0 W.heap.size wr p _ u HR.out.1 PL.out.1 HR.out.2 (HTS.out _ HB.out) HG.out)
          clear hc hr
          by_cases hc0 : 0 < c
          · have d2 : (i % per == 0) = false := (PL.out.2.1 hc0).1
            have HT := Aside0.mk (tick_on (fr := fr) hc0 rep false)
            have HQ := Aside0.mk (PL.out.2.1 hc0).2
            have mp := MP.out
            clear hc0 MP
            go_wp2_with fail
            refine HC.out.mono ?_
            rintro e w7 ⟨rfl, hi, ht⟩
            rw [HT.out] at hi
            have H7 := Aside0.mk hi; have B7 := Aside0.mk (HB.out.trans ht.below); clear hi ht
            go_wp2_with fail
            refine (irq_calls W.heap.size w7 p _ d0 _ H7.out (cS _ _ _ _ _)).mono ?_
            rintro e w8 ⟨rfl, rfl⟩
            rw [irqS]
            clear mp
            go_wp2
            go_roundg (gk - 1)
            case measure => have := HI.out; have := HL.out; omega
            case rel => exact ⟨i + 1, true, c - 1, _, by first | rfl | (congr 1), ⟨H7.out, OK.out⟩, ⟨by have := HI.out; have := HL.out; omega, by have := HI.out; omega⟩, ⟨.inl ⟨rfl, HQ.out⟩⟩, B7⟩
          · obtain ⟨hz, d2, hdue, hcn⟩ := PL.out.2.2 hc0
            subst hz
            have HQ := Aside0.mk hcn
            have mp := MP.out
            clear hc0 MP hcn
            rcases hdue with rfl | ⟨d3, hlast⟩
            ·
              have HFR := Aside0.mk (show 0 ≤ fr ∧ fr < 65536 from HPER.out.2)
              have mp0 := mp
              clear mp0
              go_wp2_with fail
              refine HC.out.mono ?_
              rintro e w7 ⟨rfl, hi, ht⟩
              rw [tick_end] at hi
              have H7 := Aside0.mk hi; have B7 := Aside0.mk (HB.out.trans ht.below); clear hi ht
              go_wp2_with fail
              refine (irq_calls W.heap.size w7 p _ d0 _ H7.out (cS _ _ _ _ _)).mono ?_
              rintro e w8 ⟨rfl, rfl⟩
              rw [irqS]
              have h3 : e3 = 0 ∨ e3 = 1 ∨ e3 = 2 := by have := E3.out; omega
              rcases h3 with rfl | rfl | rfl
              · have HS := Aside0.mk (get_status W.heap.size w7 p _ d0 _ H7.out (oS _ _ _ _ _) (bS _ _ _ _ _) (cS _ _ _ _ _))
                rw [show statA (stA fr fr true true true) d0 = 65 from rfl] at HS
                have k65 : Go.bits .and .u8 65 1 = 1 := by decide
                go_wp2_with fail
                refine HS.out.mono ?_
                rintro e w9 ⟨rfl, hi, ht⟩
                have H9 := Aside0.mk (show Is W.heap.size w9 p (stA fr fr true true false) d0 _ from hi); have B9 := Aside0.mk (B7.out.trans ht.below); clear hi ht
                go_wp2_with fail
                refine (irq_calls W.heap.size w9 p _ d0 _ H9.out (cS _ _ _ _ _)).mono ?_
                rintro e w10 ⟨rfl, rfl⟩
                rw [irqS]
                clear mp
                go_wp2
                go_roundg (gk - 1)
                case measure => have := HI.out; have := HL.out; omega
                case rel => exact ⟨i + 1, true, fr, _, by first | rfl | (congr 1), ⟨H9.out, OK.out⟩, ⟨by have := HI.out; have := HL.out; omega, by have := HI.out; omega⟩, ⟨.inl ⟨rfl, HQ.out, .inl (by first | trivial | rfl)⟩⟩, B9⟩
              · go_wp2_with fail
                refine (put_timer W.heap.size w7 p _ d0 _ H7.out (oS _ _ _ _ _) (bS _ _ _ _ _) 0 ⟨by decide, by decide⟩).mono ?_
                rintro e w9 ⟨rfl, hi, ht⟩
                rw [tim0] at hi
                have H9 := Aside0.mk hi; have B9 := Aside0.mk (B7.out.trans ht.below); clear hi ht
                go_wp2_with fail
                refine (irq_calls W.heap.size w9 p _ d0 _ H9.out (cS _ _ _ _ _)).mono ?_
                rintro e w10 ⟨rfl, rfl⟩
                rw [irqS]
                go_wp2
                go_ret
                exact ⟨rfl, B9.out⟩
              · go_wp2_with fail
                refine (put_open W.heap.size w7 p _ d0 _ H7.out 0 ⟨by decide, by decide⟩).mono ?_
                rintro e w9 ⟨rfl, hi, ht⟩
                rw [shutD0] at hi
                have H9 := Aside0.mk (show Is W.heap.size w9 p (⟨fr, fr, false, true, false, 0, 0, 0, 0, 0, false, false, 32768, 0⟩ : A) d0 _ from hi); have B9 := Aside0.mk (B7.out.trans ht.below); clear hi ht
                go_wp2_with fail
                refine (get_shut W.heap.size w9 p _ d0 _ H9.out ⟨by show (0 : Int) ≤ 0; decide, by show (0 : Int) < 256; decide⟩ rfl 16432 (by decide)).mono ?_
                rintro e w10 ⟨rfl, rfl⟩
                go_wp2_with fail
                refine (irq_calls W.heap.size w9 p _ d0 _ H9.out ⟨by show (0 : Int) ≤ 0; decide, by show (0 : Int) < 256; decide⟩).mono ?_
                rintro e w10 ⟨rfl, rfl⟩
                go_wp2
                go_ret
                exact ⟨rfl, B9.out⟩
            · cases rep
              · have HLA := Aside0.mk hlast
                have HFR := Aside0.mk (show 0 ≤ fr ∧ fr < 65536 from HPER.out.2)
                have mp0 := mp
                clear mp0
                go_wp2_with fail
                refine HC.out.mono ?_
                rintro e w7 ⟨rfl, hi, ht⟩
                rw [tick_end] at hi
                have H7 := Aside0.mk hi; have B7 := Aside0.mk (HB.out.trans ht.below); clear hi ht
                go_wp2_with fail
                refine (irq_calls W.heap.size w7 p _ d0 _ H7.out (cS _ _ _ _ _)).mono ?_
                rintro e w8 ⟨rfl, rfl⟩
                rw [irqS]
                have h3 : e3 = 0 ∨ e3 = 1 ∨ e3 = 2 := by have := E3.out; omega
                rcases h3 with rfl | rfl | rfl
                · have HS := Aside0.mk (get_status W.heap.size w7 p _ d0 _ H7.out (oS _ _ _ _ _) (bS _ _ _ _ _) (cS _ _ _ _ _))
                  rw [show statA (stA fr fr false false true) d0 = 65 from rfl] at HS
                  have k65 : Go.bits .and .u8 65 1 = 1 := by decide
                  go_wp2_with fail
                  refine HS.out.mono ?_
                  rintro e w9 ⟨rfl, hi, ht⟩
                  have H9 := Aside0.mk (show Is W.heap.size w9 p (stA fr fr false false false) d0 _ from hi); have B9 := Aside0.mk (B7.out.trans ht.below); clear hi ht
                  go_wp2_with fail
                  refine (irq_calls W.heap.size w9 p _ d0 _ H9.out (cS _ _ _ _ _)).mono ?_
                  rintro e w10 ⟨rfl, rfl⟩
                  rw [irqS]
                  clear mp
                  go_wp2
                  go_roundg (gk - 1)
                  case measure => have := HI.out; have := HL.out; omega
                  case rel => exact ⟨i + 1, false, fr, _, by first | rfl | (congr 1), ⟨H9.out, OK.out⟩, ⟨by have := HI.out; have := HL.out; omega, by have := HI.out; omega⟩, ⟨.inr ⟨rfl, (by first | trivial | rfl), HLA.out, HFR.out.1, HFR.out.2⟩⟩, B9⟩
                · go_wp2_with fail
                  refine (put_timer W.heap.size w7 p _ d0 _ H7.out (oS _ _ _ _ _) (bS _ _ _ _ _) 0 ⟨by decide, by decide⟩).mono ?_
                  rintro e w9 ⟨rfl, hi, ht⟩
                  rw [tim0] at hi
                  have H9 := Aside0.mk hi; have B9 := Aside0.mk (B7.out.trans ht.below); clear hi ht
                  go_wp2_with fail
                  refine (irq_calls W.heap.size w9 p _ d0 _ H9.out (cS _ _ _ _ _)).mono ?_
                  rintro e w10 ⟨rfl, rfl⟩
                  rw [irqS]
                  go_wp2
                  go_ret
                  exact ⟨rfl, B9.out⟩
                · go_wp2_with fail
                  refine (put_open W.heap.size w7 p _ d0 _ H7.out 0 ⟨by decide, by decide⟩).mono ?_
                  rintro e w9 ⟨rfl, hi, ht⟩
                  rw [shutD0] at hi
                  have H9 := Aside0.mk (show Is W.heap.size w9 p (⟨fr, fr, false, false, false, 0, 0, 0, 0, 0, false, false, 32768, 0⟩ : A) d0 _ from hi); have B9 := Aside0.mk (B7.out.trans ht.below); clear hi ht
                  go_wp2_with fail
                  refine (get_shut W.heap.size w9 p _ d0 _ H9.out ⟨by show (0 : Int) ≤ 0; decide, by show (0 : Int) < 256; decide⟩ rfl 16432 (by decide)).mono ?_
                  rintro e w10 ⟨rfl, rfl⟩
                  go_wp2_with fail
                  refine (irq_calls W.heap.size w9 p _ d0 _ H9.out ⟨by show (0 : Int) ≤ 0; decide, by show (0 : Int) < 256; decide⟩).mono ?_
                  rintro e w10 ⟨rfl, rfl⟩
                  go_wp2
                  go_ret
                  exact ⟨rfl, B9.out⟩
              ·
                have HFR := Aside0.mk (show 0 ≤ fr ∧ fr < 65536 from HPER.out.2)
                have mp0 := mp
                clear mp0
                go_wp2_with fail
                refine HC.out.mono ?_
                rintro e w7 ⟨rfl, hi, ht⟩
                rw [tick_end] at hi
                have H7 := Aside0.mk hi; have B7 := Aside0.mk (HB.out.trans ht.below); clear hi ht
                go_wp2_with fail
                refine (irq_calls W.heap.size w7 p _ d0 _ H7.out (cS _ _ _ _ _)).mono ?_
                rintro e w8 ⟨rfl, rfl⟩
                rw [irqS]
                have h3 : e3 = 0 ∨ e3 = 1 ∨ e3 = 2 := by have := E3.out; omega
                rcases h3 with rfl | rfl | rfl
                · have HS := Aside0.mk (get_status W.heap.size w7 p _ d0 _ H7.out (oS _ _ _ _ _) (bS _ _ _ _ _) (cS _ _ _ _ _))
                  rw [show statA (stA fr fr true true true) d0 = 65 from rfl] at HS
                  have k65 : Go.bits .and .u8 65 1 = 1 := by decide
                  go_wp2_with fail
                  refine HS.out.mono ?_
                  rintro e w9 ⟨rfl, hi, ht⟩
                  have H9 := Aside0.mk (show Is W.heap.size w9 p (stA fr fr true true false) d0 _ from hi); have B9 := Aside0.mk (B7.out.trans ht.below); clear hi ht
                  go_wp2_with fail
                  refine (irq_calls W.heap.size w9 p _ d0 _ H9.out (cS _ _ _ _ _)).mono ?_
                  rintro e w10 ⟨rfl, rfl⟩
                  rw [irqS]
                  clear mp
                  go_wp2
                  go_roundg (gk - 1)
                  case measure => have := HI.out; have := HL.out; omega
                  case rel => exact ⟨i + 1, true, fr, _, by first | rfl | (congr 1), ⟨H9.out, OK.out⟩, ⟨by have := HI.out; have := HL.out; omega, by have := HI.out; omega⟩, ⟨.inl ⟨rfl, HQ.out, .inl (by first | trivial | rfl)⟩⟩, B9⟩
                · go_wp2_with fail
                  refine (put_timer W.heap.size w7 p _ d0 _ H7.out (oS _ _ _ _ _) (bS _ _ _ _ _) 0 ⟨by decide, by decide⟩).mono ?_
                  rintro e w9 ⟨rfl, hi, ht⟩
                  rw [tim0] at hi
                  have H9 := Aside0.mk hi; have B9 := Aside0.mk (B7.out.trans ht.below); clear hi ht
                  go_wp2_with fail
                  refine (irq_calls W.heap.size w9 p _ d0 _ H9.out (cS _ _ _ _ _)).mono ?_
                  rintro e w10 ⟨rfl, rfl⟩
                  rw [irqS]
                  go_wp2
                  go_ret
                  exact ⟨rfl, B9.out⟩
                · go_wp2_with fail
                  refine (put_open W.heap.size w7 p _ d0 _ H7.out 0 ⟨by decide, by decide⟩).mono ?_
                  rintro e w9 ⟨rfl, hi, ht⟩
                  rw [shutD0] at hi
                  have H9 := Aside0.mk (show Is W.heap.size w9 p (⟨fr, fr, false, true, false, 0, 0, 0, 0, 0, false, false, 32768, 0⟩ : A) d0 _ from hi); have B9 := Aside0.mk (B7.out.trans ht.below); clear hi ht
                  go_wp2_with fail
                  refine (get_shut W.heap.size w9 p _ d0 _ H9.out ⟨by show (0 : Int) ≤ 0; decide, by show (0 : Int) < 256; decide⟩ rfl 16432 (by decide)).mono ?_
                  rintro e w10 ⟨rfl, rfl⟩
                  go_wp2_with fail
                  refine (irq_calls W.heap.size w9 p _ d0 _ H9.out ⟨by show (0 : Int) ≤ 0; decide, by show (0 : Int) < 256; decide⟩).mono ?_
                  rintro e w10 ⟨rfl, rfl⟩
                  go_wp2
                  go_ret
                  exact ⟨rfl, B9.out⟩
        · have d2 : (i == per) = false := by rw [beq_eq_false_iff_ne]; omega
          have HC := Aside0.mk (clock0 W.heap.size wr p _ u HR.out.1 ⟨h0, h1⟩ HR.out.2 (HTS.out _ HB.out) HG.out)
          have HPI := Aside0.mk (show per < i + 1 from by omega)
          have HCR := Aside0.mk (And.intro h0 h1)
          have mp := MP.out
          clear hpi h0 h1 MP
          go_wp2_with fail
          refine HC.out.mono ?_
          rintro e w7 ⟨rfl, hi, ht⟩
          rw [tick_off] at hi
          have H7 := Aside0.mk hi; have B7 := Aside0.mk (HB.out.trans ht.below); clear hi ht
          by_cases hd : i % per = 0
          all_goals
            first | have d4 : (i % per == 0) = true := beq_iff_eq.2 hd | have d4 : (i % per == 0) = false := beq_eq_false_iff_ne.2 hd
            clear hd
            go_wp2_with fail
            refine (irq_calls W.heap.size w7 p _ d0 _ H7.out (cS _ _ _ _ _)).mono ?_
            rintro e w8 ⟨rfl, rfl⟩
            rw [irqS]
            clear mp
            go_wp2
            go_roundg (gk - 1)
            case measure => have := HI.out; have := HL.out; omega
            case rel => exact ⟨i + 1, false, c, _, by first | rfl | (congr 1), ⟨H7.out, OK.out⟩, ⟨by have := HI.out; have := HL.out; omega, by have := HI.out; omega⟩, ⟨.inr ⟨rfl, (by first | trivial | rfl), HPI.out, HCR.out.1, HCR.out.2⟩⟩, B7⟩
      · have d1 : decide (i ≤ 1 + n5) = false := decide_eq_false hlt
        clear hlt
        go_wp2
        go_ret
        exact ⟨rfl, HB.out⟩
end Go.Proofs.YtaiaapjlpbhlbaaDoor.Ada
