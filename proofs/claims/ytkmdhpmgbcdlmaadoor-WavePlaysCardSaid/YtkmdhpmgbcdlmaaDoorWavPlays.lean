/-
  WavePlays: the wave and the reference's wave, side by side. By the prover of this repo.
-/
import Derived.Test.YtkmdhpmgbcdlmaaDoorWavZ
import Derived.Test.YtkmdhpmgbcdlmaaDoorWavActs
namespace Go.Proofs.YtkmdhpmgbcdlmaaDoor.Wave
open Go.RowKit Go.Proofs.YtkmdhpmgbcdlmaaDoorW.PrintWords Go.Proofs.YtkmdhpmgbcdlmaaDoorW.PrintLast Go.Proofs.YtkmdhpmgbcdlmaaDoorW.PrintMore
set_option linter.unusedVariables false
set_option linter.unusedSimpArgs false
theorem clockV_cycle (v : V) : (clockV v).cycle = (v.cycle + 1) % 16 := by
  have h1 : (cycV (clk1 v)).cycle = (v.cycle + 1) % 16 := by show ((clk1 v).cycle + 1) % 16 = _; rw [clk1_cycle]
  have h2 : ∀ u : V, (stepV u).cycle = u.cycle := by
    intro u
    unfold stepV
    split
    · rfl
    split
    · unfold addB; split <;> rfl
    · unfold turned addB; split <;> rfl
  have h3 : ∀ u : V, (tickV u).cycle = u.cycle := by
    intro u
    unfold tickV
    split
    · rfl
    · unfold addW; split <;> rfl
  unfold clockV
  split
  · exact h1
  · rw [h3, h2, h1]
theorem putV_cycle (v : V) (a b : Int) : (putV v a b).cycle = v.cycle := by
  unfold putV
  repeat' split
  all_goals first
    | rfl
    | (unfold tab; split <;> rfl)
    | (unfold hig; split <;> rfl)
    | (unfold thi; split <;> rfl)
    | (unfold mas; split <;> rfl)
    | (unfold layV; split <;> rfl)
theorem getV_some {v : V} (h : Wf v) (a : Int) (hk : (getV v a).2 = true) : 0 ≤ (getV v a).1 ∧ (getV v a).1 < 256 := by
  unfold getV at *
  split
  · have := h.table (a - 16448); dsimp only; omega
  · split
    · have := h.vgain; dsimp only; omega
    · split
      · have := h.mgain; dsimp only; omega
      · decide
theorem getV_none {v : V} (a : Int) (hk : ¬ (getV v a).2 = true) : (getV v a).1 = 0 := by
  unfold getV at *
  split
  · rename_i h1; rw [if_pos h1] at hk; exact absurd rfl hk
  · rename_i h1
    rw [if_neg h1] at hk
    split
    · rename_i h2; rw [if_pos h2] at hk; exact absurd rfl hk
    · rename_i h2
      rw [if_neg h2] at hk
      split
      · rename_i h3; rw [if_pos h3] at hk; exact absurd rfl hk
      · rfl
set_option maxRecDepth 20000 in
set_option maxHeartbeats 8000000 in
theorem plays_walk (l : List Act) (A0 : Option Addr) (c0 : Nat) (W : World) (hm : MS W) (hts : TS W) (hg : 0 < W.heap.size) (hg2 : 1 < W.heap.size) (hA : Acts W A0 l) (hok : ∀ i, (ga l i).ok) (hlen : l.length ≤ 9223372036854775807) :
    Calls Tryd.prog 7 #[.slice A0 l.length c0] W fun e W' => e = .returned (.bool true) ∧ Below W.heap.size W W' := by
  have HM := Aside0.mk hm
  have HGM := Aside0.mk hg
  have HTS := Aside0.mk (fun (W1 : World) (hb : Below W.heap.size W W1) => hts.below hb hg2)
  have HG2 := Aside0.mk hg2
  have HA := Aside0.mk hA
  have HOK := Aside0.mk hok
  have HLN := Aside0.mk hlen
  clear hm hts hg hg2 hA hok hlen
  go_enter Tryd.func7, Tryd.ntmps7
  go_wp2_with (go_at_call 9; refine (awake_calls W HM.out HGM.out).mono ?_; rintro e w1 ⟨rfl, hb⟩; have HB1 := Aside0.mk hb; clear hb)
  refine (new_calls W.heap.size _ HB1.out.size).mono ?_
  rintro e w2 ⟨g, rfl, hi, hb, hg⟩
  have HI2 := Aside0.mk hi; have HB2 := Aside0.mk (HB1.out.trans (hb.mono HB1.out.size)); clear hi hb hg
  have z2 := zeroR_run w2
  go_wp2_with fail
  have HIR := Aside0.mk (show IsR W.heap.size (w2.alloc (.cells (cellsR v0 0).toArray 48)) w2.heap.size v0 0 from ⟨heap_alloc_new w2 _, HB2.out.size, by decide, by decide, by decide⟩)
  have HI3 := Aside0.mk (HI2.out.below (below_alloc (Below.refl _ _) (.cells (cellsR v0 0).toArray 48)))
  have HB3 := Aside0.mk (below_alloc HB2.out (.cells (cellsR v0 0).toArray 48))
  have HNE := Aside0.mk (show g ≠ w2.heap.size from by have := HI2.out.at_.lt; omega)
  clear z2 HI2 HB2 HB1
  generalize (w2.alloc (.cells (cellsR v0 0).toArray 48)) = w3 at *
  generalize w2.heap.size = gr at *
  go_loopg [19] l.length (fun kq v19 w' => ∃ (i : Int) (v : V) (cy : Int), v19 = .int .i64 i ∧ Aside0 (Is W.heap.size w' g v ∧ IsR W.heap.size w' gr v cy ∧ Okv v) ∧ Aside0 (i + kq = l.length ∧ 0 ≤ i ∧ (0 ≤ cy ∧ cy ≤ i * 3000 ∧ cy % 16 = v.cycle)) ∧ Aside0 (Below W.heap.size W w'))
  case atStart => exact ⟨0, v0, 0, rfl, ⟨HI3.out, HIR.out, okv0⟩, ⟨by omega, by decide, by decide, by decide, by decide⟩, HB3⟩
  case round =>
    clear HI3 HIR HB3
    obtain ⟨i, v, cy, rfl, HR, HC, HB⟩ := hrel
    by_cases hlt : i < l.length
    · have d1 : decide (i < (l.length : Int)) = true := decide_eq_true hlt
      have hi0 := HC.out.2.1
      obtain ⟨ad, ea, ha⟩ := HA.out i hi0 hlt
      subst ea
      have ha2 : Act.at_ wr (ad.add (i.toNat * 4)) (ga l i) := by
        have hl_ := World.block_lt_of_cell? W _ ha.1
        exact ⟨(HB.out.cell hl_).trans ha.1, (HB.out.cell (p := ⟨(ad.add (i.toNat * 4)).block, (ad.add (i.toNat * 4)).off + 1, none⟩) hl_).trans ha.2.1, (HB.out.cell (p := ⟨(ad.add (i.toNat * 4)).block, (ad.add (i.toNat * 4)).off + 2, none⟩) hl_).trans ha.2.2.1, (HB.out.cell (p := ⟨(ad.add (i.toNat * 4)).block, (ad.add (i.toNat * 4)).off + 3, none⟩) hl_).trans ha.2.2.2⟩
      obtain ⟨x0, x1, x2, x3⟩ := ha2
      have ok := HOK.out i
      have q0 := eq_true hi0
      have q1 := eq_true hlt
      have e1 : wrap64 (i + 1) = i + 1 := wr64 (by omega) (by have := HLN.out; omega)
      have HL := Aside0.mk (And.intro hlt hi0)
      clear ha
      generalize ga l i = x at *
      obtain ⟨xd, xa, xb, xn⟩ := x
      obtain ⟨o1, o2, o3, o4⟩ := ok
      dsimp only at x0 x1 x2 x3 o1 o2 o3 o4
      by_cases hb : 40 ≤ i
      · have k1 : decide (40 ≤ i) = true := decide_eq_true hb
        clear hb hlt hi0 o1 o2 o3 o4
        go_wp2
        go_ret
        exact ⟨rfl, below_alloc HB.out _⟩
      · have k1 : decide (40 ≤ i) = false := decide_eq_false hb
        have HC5 := Aside0.mk (show (0 ≤ cy ∧ cy ≤ i * 3000 ∧ cy % 16 = v.cycle) ∧ i < 40 ∧ i + gk = l.length from ⟨HC.out.2.2, by omega, HC.out.1⟩)
        clear hb hlt hi0
        have m3 : xn.tmod 16 = xn % 16 := Int.tmod_eq_emod_of_nonneg o4.1
        have m4 : xn.tmod 3000 = xn % 3000 := Int.tmod_eq_emod_of_nonneg o4.1
        have m2 : xa.tmod 84 = xa % 84 := Int.tmod_eq_emod_of_nonneg o2.1
        have m1 : xd.tmod 8 = xd % 8 := Int.tmod_eq_emod_of_nonneg o1.1
        have m5 : IntKind.u16.wrap (16448 + xa % 84) = 16448 + xa % 84 := by have := o2; rw [IntKind.wrap_u16]; omega
        have HX := Aside0.mk (And.intro o1 (And.intro o2 (And.intro o3 o4)))
        clear o1 o2 o3 o4
        go_upto_if 31 with fail
        have HT5 := Aside0.mk (show At (wr.alloc (.cells #[.int .u8 xd, .int .u16 xa, .int .u8 xb, .int .u16 xn] 40)) wr.heap.size 40 #[.int .u8 xd, .int .u16 xa, .int .u8 xb, .int .u16 xn] from heap_alloc_new wr _)
        have HI5 := Aside0.mk (show Is W.heap.size (wr.alloc (.cells #[.int .u8 xd, .int .u16 xa, .int .u8 xb, .int .u16 xn] 40)) g v from HR.out.1.below (below_alloc (Below.refl _ _) _))
        have HR5 := Aside0.mk (show IsR W.heap.size (wr.alloc (.cells #[.int .u8 xd, .int .u16 xa, .int .u8 xb, .int .u16 xn] 40)) gr v cy from HR.out.2.1.below (below_alloc (Below.refl _ _) _))
        have HB5 := Aside0.mk (below_alloc HB.out (.cells #[.int .u8 xd, .int .u16 xa, .int .u8 xb, .int .u16 xn] 40))
        have OK5 := Aside0.mk HR.out.2.2
        have HGX := Aside0.mk (show wr.heap.size ≠ g from by have := HR.out.1.at_.lt; omega)
        clear HR HB HC x0 x1 x2 x3
        generalize wr.alloc (.cells #[.int .u8 xd, .int .u16 xa, .int .u8 xb, .int .u16 xn] 40) = w5 at *
        generalize wr.heap.size = gx at *
        generalize hq : decide (0 < xn % 16) = q31 at *
        go_cut [7] (fun v7 wc => ∃ ra : Int, v7 = .int .u16 ra ∧ Aside0 (0 ≤ ra ∧ ra < 65536) ∧ Aside0 (At wc gx 40 #[.int .u8 xd, .int .u16 xa, .int .u8 xb, .int .u16 xn]) ∧ Aside0 (Is W.heap.size wc g v) ∧ Aside0 (IsR W.heap.size wc gr v cy) ∧ Aside0 (Below W.heap.size W wc))
        case first =>
          cases q31
          · go_wp2
            go_meet
            case rel => exact ⟨xa, rfl, ⟨HX.out.2.1⟩, HT5, HI5, HR5, HB5⟩
          · go_wp2
            go_meet
            case rel => exact ⟨16448 + xa % 84, by first | rfl | (congr 1), ⟨by have := HX.out.2.1; omega, by have := HX.out.2.1; omega⟩, HT5, HI5, HR5, HB5⟩
        case rest =>
          obtain ⟨ra, rfl, HRA, HT6, HI6, HR6, HB6⟩ := hcut
          clear HI5 HB5 HT5 HR5 hq m3 m2 m5
          have f0 : wc.cell? ⟨gx, 0, none⟩ = some (.int .u8 xd) := HT6.out.cell 0
          have f2 : wc.cell? ⟨gx, 2, none⟩ = some (.int .u8 xb) := HT6.out.cell 2
          have f3 : wc.cell? ⟨gx, 3, none⟩ = some (.int .u16 xn) := HT6.out.cell 3
          have h8 : 0 ≤ xd % 8 ∧ xd % 8 < 8 := by omega
          generalize xd % 8 = d8 at *
          have h8' : d8 = 5 ∨ d8 = 6 ∨ d8 = 7 ∨ (¬ d8 = 5 ∧ ¬ d8 = 6 ∧ ¬ d8 = 7) := by omega
          clear h8
          rcases h8' with rfl | rfl | rfl | ⟨s5, s6, s7⟩
          ·
            have hrn : 0 ≤ xn % 3000 ∧ xn % 3000 < 3000 := by omega
            generalize xn % 3000 = rn at *
            have HRN := Aside0.mk hrn
            clear hrn
            go_wp2_with fail
            go_loopg [56] rn.toNat (fun kq v56 w' => ∃ (j : Int) (v' : V) (cy' : Int), v56 = .int .u16 j ∧ Aside0 (Is W.heap.size w' g v' ∧ IsR W.heap.size w' gr v' cy' ∧ Okv v') ∧ Aside0 (j + kq = rn ∧ 0 ≤ j ∧ cy' = cy + j ∧ cy' % 16 = v'.cycle) ∧ Aside0 (Below W.heap.size W w'))
            case atStart => exact ⟨0, v, cy, rfl, ⟨HI6.out, HR6.out, OK5.out⟩, ⟨by have := HRN.out; omega, by decide, by omega, HC5.out.1.2.2⟩, HB6⟩
            case round =>
              obtain ⟨j, v', cy', rfl, HV, HJ, HB⟩ := hrel
              by_cases hj : j < rn
              · have d2 : decide (j < rn) = true := decide_eq_true hj
                have wj : IntKind.u16.wrap (j + 1) = j + 1 := by have := HJ.out; have := HRN.out; rw [IntKind.wrap_u16]; omega
                have m16 : j.tmod 16 = j % 16 := Int.tmod_eq_emod_of_nonneg HJ.out.2.1
                have HCL := Aside0.mk (clock_calls W.heap.size g v' wr HV.out.1 HV.out.2.2 (HTS.out _ HB.out) HG2.out)
                have HRC := Aside0.mk (fun (W1 : World) (h1 : IsR W.heap.size W1 gr v' cy') => rclock_calls W.heap.size gr v' cy' W1 h1 HV.out.2.2 ⟨by have := HJ.out; have := HC5.out; omega, by have := HJ.out; have := HC5.out; have := HRN.out; omega, HJ.out.2.2.2⟩)
                have OK9 := Aside0.mk (clockV_ok HV.out.2.2)
                have HCY := Aside0.mk (show (cy' + 1) % 16 = (clockV v').cycle from by rw [clockV_cycle]; have := HJ.out; omega)
                have HJ2 := Aside0.mk hj
                generalize clockV v' = v9 at *
                clear hj
                go_wp2_with fail
                refine HCL.out.mono ?_
                rintro e w9 ⟨rfl, hi, ht⟩
                have HI9 := Aside0.mk hi
                have HR9 := Aside0.mk (HV.out.2.1.kept ht (Ne.symm HNE.out))
                have HB9 := Aside0.mk (HB.out.trans ht.below)
                clear hi ht
                go_wp2_with fail
                refine (HRC.out _ HR9.out).mono ?_
                rintro e w10 ⟨rfl, hi, ht⟩
                have HR10 := Aside0.mk hi
                have HI10 := Aside0.mk (HI9.out.kept ht HNE.out)
                have HB10 := Aside0.mk (HB9.out.trans ht.below)
                clear hi ht HI9 HR9 HB9
                by_cases h16 : j % 16 = 0
                · have d16 : (j % 16 == 0) = true := by simpa using h16
                  have HO := Aside0.mk (out_calls W.heap.size g v9 w10 HI10.out OK9.out.wf (HM.out.below HB10.out HGM.out))
                  have HRO := Aside0.mk (fun (W1 : World) (h1 : IsR W.heap.size W1 gr v9 (cy' + 1)) => rout_calls W.heap.size gr v9 (cy' + 1) W1 h1 OK9.out.wf)
                  generalize outV v9 = ov at *
                  clear h16
                  go_wp2_with fail
                  refine HO.out.mono ?_
                  rintro e w11 ⟨rfl, n11, rfl⟩
                  go_wp2_with fail
                  refine (HRO.out _ (HR10.out.drewN n11)).mono ?_
                  rintro e w12 ⟨rfl, hb12⟩
                  have HB12 := Aside0.mk hb12
                  clear hb12
                  go_wp2
                  go_roundg (gk - 1)
                  case measure => have := HJ.out; have := HJ2.out; omega
                  case rel =>
                    have := HJ.out
                    have := HJ2.out
                    exact ⟨j + 1, v9, cy' + 1, by first | rfl | (congr 1), ⟨(HI10.out.drewN n11).below HB12.out, (HR10.out.drewN n11).below HB12.out, OK9.out⟩, ⟨by omega, by omega, by omega, HCY.out⟩, ⟨(pw_below_drewN HB10.out n11).trans (HB12.out.mono (pw_below_drewN HB10.out n11).size)⟩⟩
                · have d16 : (j % 16 == 0) = false := by simpa using h16
                  clear h16
                  go_wp2
                  go_roundg (gk - 1)
                  case measure => have := HJ.out; have := HJ2.out; omega
                  case rel =>
                    have := HJ.out
                    have := HJ2.out
                    exact ⟨j + 1, v9, cy' + 1, by first | rfl | (congr 1), ⟨HI10.out, HR10.out, OK9.out⟩, ⟨by omega, by omega, by omega, HCY.out⟩, HB10⟩
              · have d2 : decide (j < rn) = false := decide_eq_false hj
                have HCX := Aside0.mk (show 0 ≤ cy' ∧ cy' ≤ (i + 1) * 3000 ∧ cy' % 16 = v'.cycle from ⟨by have := HJ.out; have := HC5.out; omega, by have := HJ.out; have := HC5.out; have := HRN.out; omega, HJ.out.2.2.2⟩)
                have HI7 := Aside0.mk HV.out.1
                have HR7 := Aside0.mk HV.out.2.1
                have OK7 := Aside0.mk HV.out.2.2
                clear hj
                have HO := Aside0.mk (out_calls W.heap.size g v' wr HI7.out OK7.out.wf (HM.out.below HB.out HGM.out))
                have HRO := Aside0.mk (fun (W1 : World) (h1 : IsR W.heap.size W1 gr v' cy') => rout_calls W.heap.size gr v' cy' W1 h1 OK7.out.wf)
                generalize outV v' = ov at *
                go_wp2_with fail
                refine HO.out.mono ?_
                rintro e w20 ⟨rfl, n20, rfl⟩
                go_wp2_with fail
                refine (HRO.out _ (HR7.out.drewN n20)).mono ?_
                rintro e w21 ⟨rfl, hb21⟩
                have HB21 := Aside0.mk hb21
                clear hb21
                go_wp2
                go_roundg ((l.length - i - 1).toNat)
                case measure => have := HL.out; have := HC5.out; omega
                case rel =>
                  have := HL.out
                  have := HC5.out
                  have := HCX.out
                  exact ⟨i + 1, v', cy', by first | rfl | (congr 1), ⟨(HI7.out.drewN n20).below HB21.out, (HR7.out.drewN n20).below HB21.out, OK7.out⟩, ⟨by omega, by omega, by omega, by omega, HCX.out.2.2⟩, ⟨(pw_below_drewN HB.out n20).trans (HB21.out.mono (pw_below_drewN HB.out n20).size)⟩⟩
          ·
            have hrn : 0 ≤ xn % 3000 ∧ xn % 3000 < 3000 := by omega
            generalize xn % 3000 = rn at *
            have HRN := Aside0.mk hrn
            clear hrn
            go_wp2_with fail
            go_loopg [56] rn.toNat (fun kq v56 w' => ∃ (j : Int) (v' : V) (cy' : Int), v56 = .int .u16 j ∧ Aside0 (Is W.heap.size w' g v' ∧ IsR W.heap.size w' gr v' cy' ∧ Okv v') ∧ Aside0 (j + kq = rn ∧ 0 ≤ j ∧ cy' = cy + j ∧ cy' % 16 = v'.cycle) ∧ Aside0 (Below W.heap.size W w'))
            case atStart => exact ⟨0, v, cy, rfl, ⟨HI6.out, HR6.out, OK5.out⟩, ⟨by have := HRN.out; omega, by decide, by omega, HC5.out.1.2.2⟩, HB6⟩
            case round =>
              obtain ⟨j, v', cy', rfl, HV, HJ, HB⟩ := hrel
              by_cases hj : j < rn
              · have d2 : decide (j < rn) = true := decide_eq_true hj
                have wj : IntKind.u16.wrap (j + 1) = j + 1 := by have := HJ.out; have := HRN.out; rw [IntKind.wrap_u16]; omega
                have m16 : j.tmod 16 = j % 16 := Int.tmod_eq_emod_of_nonneg HJ.out.2.1
                have HCL := Aside0.mk (clock_calls W.heap.size g v' wr HV.out.1 HV.out.2.2 (HTS.out _ HB.out) HG2.out)
                have HRC := Aside0.mk (fun (W1 : World) (h1 : IsR W.heap.size W1 gr v' cy') => rclock_calls W.heap.size gr v' cy' W1 h1 HV.out.2.2 ⟨by have := HJ.out; have := HC5.out; omega, by have := HJ.out; have := HC5.out; have := HRN.out; omega, HJ.out.2.2.2⟩)
                have OK9 := Aside0.mk (clockV_ok HV.out.2.2)
                have HCY := Aside0.mk (show (cy' + 1) % 16 = (clockV v').cycle from by rw [clockV_cycle]; have := HJ.out; omega)
                have HJ2 := Aside0.mk hj
                generalize clockV v' = v9 at *
                clear hj
                go_wp2_with fail
                refine HCL.out.mono ?_
                rintro e w9 ⟨rfl, hi, ht⟩
                have HI9 := Aside0.mk hi
                have HR9 := Aside0.mk (HV.out.2.1.kept ht (Ne.symm HNE.out))
                have HB9 := Aside0.mk (HB.out.trans ht.below)
                clear hi ht
                go_wp2_with fail
                refine (HRC.out _ HR9.out).mono ?_
                rintro e w10 ⟨rfl, hi, ht⟩
                have HR10 := Aside0.mk hi
                have HI10 := Aside0.mk (HI9.out.kept ht HNE.out)
                have HB10 := Aside0.mk (HB9.out.trans ht.below)
                clear hi ht HI9 HR9 HB9
                by_cases h16 : j % 16 = 0
                · have d16 : (j % 16 == 0) = true := by simpa using h16
                  have HO := Aside0.mk (out_calls W.heap.size g v9 w10 HI10.out OK9.out.wf (HM.out.below HB10.out HGM.out))
                  have HRO := Aside0.mk (fun (W1 : World) (h1 : IsR W.heap.size W1 gr v9 (cy' + 1)) => rout_calls W.heap.size gr v9 (cy' + 1) W1 h1 OK9.out.wf)
                  generalize outV v9 = ov at *
                  clear h16
                  go_wp2_with fail
                  refine HO.out.mono ?_
                  rintro e w11 ⟨rfl, n11, rfl⟩
                  go_wp2_with fail
                  refine (HRO.out _ (HR10.out.drewN n11)).mono ?_
                  rintro e w12 ⟨rfl, hb12⟩
                  have HB12 := Aside0.mk hb12
                  clear hb12
                  go_wp2
                  go_roundg (gk - 1)
                  case measure => have := HJ.out; have := HJ2.out; omega
                  case rel =>
                    have := HJ.out
                    have := HJ2.out
                    exact ⟨j + 1, v9, cy' + 1, by first | rfl | (congr 1), ⟨(HI10.out.drewN n11).below HB12.out, (HR10.out.drewN n11).below HB12.out, OK9.out⟩, ⟨by omega, by omega, by omega, HCY.out⟩, ⟨(pw_below_drewN HB10.out n11).trans (HB12.out.mono (pw_below_drewN HB10.out n11).size)⟩⟩
                · have d16 : (j % 16 == 0) = false := by simpa using h16
                  clear h16
                  go_wp2
                  go_roundg (gk - 1)
                  case measure => have := HJ.out; have := HJ2.out; omega
                  case rel =>
                    have := HJ.out
                    have := HJ2.out
                    exact ⟨j + 1, v9, cy' + 1, by first | rfl | (congr 1), ⟨HI10.out, HR10.out, OK9.out⟩, ⟨by omega, by omega, by omega, HCY.out⟩, HB10⟩
              · have d2 : decide (j < rn) = false := decide_eq_false hj
                have HCX := Aside0.mk (show 0 ≤ cy' ∧ cy' ≤ (i + 1) * 3000 ∧ cy' % 16 = v'.cycle from ⟨by have := HJ.out; have := HC5.out; omega, by have := HJ.out; have := HC5.out; have := HRN.out; omega, HJ.out.2.2.2⟩)
                have HI7 := Aside0.mk HV.out.1
                have HR7 := Aside0.mk HV.out.2.1
                have OK7 := Aside0.mk HV.out.2.2
                clear hj
                have HO := Aside0.mk (out_calls W.heap.size g v' wr HI7.out OK7.out.wf (HM.out.below HB.out HGM.out))
                have HRO := Aside0.mk (fun (W1 : World) (h1 : IsR W.heap.size W1 gr v' cy') => rout_calls W.heap.size gr v' cy' W1 h1 OK7.out.wf)
                generalize outV v' = ov at *
                go_wp2_with fail
                refine HO.out.mono ?_
                rintro e w20 ⟨rfl, n20, rfl⟩
                go_wp2_with fail
                refine (HRO.out _ (HR7.out.drewN n20)).mono ?_
                rintro e w21 ⟨rfl, hb21⟩
                have HB21 := Aside0.mk hb21
                clear hb21
                go_wp2
                go_roundg ((l.length - i - 1).toNat)
                case measure => have := HL.out; have := HC5.out; omega
                case rel =>
                  have := HL.out
                  have := HC5.out
                  have := HCX.out
                  exact ⟨i + 1, v', cy', by first | rfl | (congr 1), ⟨(HI7.out.drewN n20).below HB21.out, (HR7.out.drewN n20).below HB21.out, OK7.out⟩, ⟨by omega, by omega, by omega, by omega, HCX.out.2.2⟩, ⟨(pw_below_drewN HB.out n20).trans (HB21.out.mono (pw_below_drewN HB.out n20).size)⟩⟩
          · have wr1 : wrap64 ra = ra := wr64 (by have := HRA.out; omega) (by have := HRA.out; omega)
            have wr2 : IntKind.i64.wrap ra = ra := by have := HRA.out; rw [IntKind.wrap_i64]; omega
            have HG := Aside0.mk (get_calls W.heap.size g v wc HI6.out OK5.out.wf ra HRA.out.1 HRA.out.2)
            have HRG := Aside0.mk (rget_calls W.heap.size gr v cy wc HR6.out OK5.out.wf ra HRA.out.1 HRA.out.2)
            have HCX := Aside0.mk (show 0 ≤ cy ∧ cy ≤ (i + 1) * 3000 ∧ cy % 16 = v.cycle from ⟨HC5.out.1.1, by have := HC5.out; omega, HC5.out.1.2.2⟩)
            by_cases hk : (getV v ra).2 = true
            · have hg := getV_some OK5.out.wf ra hk
              have eg : getR v ra = (getV v ra).1 := if_pos hk
              rw [eg] at HRG
              rw [hk] at HG
              clear eg hk
              generalize (getV v ra).1 = gb at *
              have k1 : decide (0 ≤ gb) = true := decide_eq_true hg.1
              have wg1 : wrap64 gb = gb := wr64 (by omega) (by omega)
              have wg2 : IntKind.i64.wrap gb = gb := by rw [IntKind.wrap_i64]; omega
              clear hg
              go_wp2_with fail
              refine HG.out.mono ?_
              rintro e w7 ⟨rfl, rfl⟩
              go_wp2_with fail
              refine HRG.out.mono ?_
              rintro e w8 ⟨rfl, rfl⟩
              have HO := Aside0.mk (out_calls W.heap.size g v wc HI6.out OK5.out.wf (HM.out.below HB6.out HGM.out))
              have HRO := Aside0.mk (fun (W1 : World) (h1 : IsR W.heap.size W1 gr v cy) => rout_calls W.heap.size gr v cy W1 h1 OK5.out.wf)
              generalize outV v = ov at *
              go_wp2_with fail
              refine HO.out.mono ?_
              rintro e w20 ⟨rfl, n20, rfl⟩
              go_wp2_with fail
              refine (HRO.out _ (HR6.out.drewN n20)).mono ?_
              rintro e w21 ⟨rfl, hb21⟩
              have HB21 := Aside0.mk hb21
              clear hb21
              go_wp2
              go_roundg ((l.length - i - 1).toNat)
              case measure => have := HL.out; have := HC5.out; omega
              case rel =>
                have := HL.out
                have := HC5.out
                have := HCX.out
                exact ⟨i + 1, v, cy, by first | rfl | (congr 1), ⟨(HI6.out.drewN n20).below HB21.out, (HR6.out.drewN n20).below HB21.out, OK5.out⟩, ⟨by omega, by omega, by omega, by omega, HCX.out.2.2⟩, ⟨(pw_below_drewN HB6.out n20).trans (HB21.out.mono (pw_below_drewN HB6.out n20).size)⟩⟩
            · have eg : getR v ra = -1 := if_neg hk
              have ez := getV_none ra hk
              rw [eg] at HRG
              rw [ez, Bool.eq_false_iff.2 hk] at HG
              clear eg hk ez
              go_wp2_with fail
              refine HG.out.mono ?_
              rintro e w7 ⟨rfl, rfl⟩
              go_wp2_with fail
              refine HRG.out.mono ?_
              rintro e w8 ⟨rfl, rfl⟩
              have HO := Aside0.mk (out_calls W.heap.size g v wc HI6.out OK5.out.wf (HM.out.below HB6.out HGM.out))
              have HRO := Aside0.mk (fun (W1 : World) (h1 : IsR W.heap.size W1 gr v cy) => rout_calls W.heap.size gr v cy W1 h1 OK5.out.wf)
              generalize outV v = ov at *
              go_wp2_with fail
              refine HO.out.mono ?_
              rintro e w20 ⟨rfl, n20, rfl⟩
              go_wp2_with fail
              refine (HRO.out _ (HR6.out.drewN n20)).mono ?_
              rintro e w21 ⟨rfl, hb21⟩
              have HB21 := Aside0.mk hb21
              clear hb21
              go_wp2
              go_roundg ((l.length - i - 1).toNat)
              case measure => have := HL.out; have := HC5.out; omega
              case rel =>
                have := HL.out
                have := HC5.out
                have := HCX.out
                exact ⟨i + 1, v, cy, by first | rfl | (congr 1), ⟨(HI6.out.drewN n20).below HB21.out, (HR6.out.drewN n20).below HB21.out, OK5.out⟩, ⟨by omega, by omega, by omega, by omega, HCX.out.2.2⟩, ⟨(pw_below_drewN HB6.out n20).trans (HB21.out.mono (pw_below_drewN HB6.out n20).size)⟩⟩
          · have wr1 : wrap64 ra = ra := wr64 (by have := HRA.out; omega) (by have := HRA.out; omega)
            have wr2 : IntKind.i64.wrap ra = ra := by have := HRA.out; rw [IntKind.wrap_i64]; omega
            have wb1 : wrap64 xb = xb := wr64 (by have := HX.out.2.2.1.1; omega) (by have := HX.out.2.2.1.2; omega)
            have wb2 : IntKind.i64.wrap xb = xb := by have := HX.out.2.2.1.1; have := HX.out.2.2.1.2; rw [IntKind.wrap_i64]; omega
            have t5 : (d8 == 5) = false := by simpa using s5
            have t6 : (d8 == 6) = false := by simpa using s6
            have t7 : (d8 == 7) = false := by simpa using s7
            have HP := Aside0.mk (put_all W.heap.size g v wc HI6.out OK5.out.wf (HM.out.below HB6.out HGM.out) ra HRA.out.1 HRA.out.2 xb HX.out.2.2.1)
            have HRP := Aside0.mk (fun (W1 : World) (h1 : IsR W.heap.size W1 gr v cy) => rPut_all W.heap.size gr v cy W1 h1 OK5.out.wf ra HRA.out.1 HRA.out.2 xb HX.out.2.2.1)
            have HCX := Aside0.mk (show 0 ≤ cy ∧ cy ≤ (i + 1) * 3000 ∧ cy % 16 = (putV v ra xb).cycle from ⟨HC5.out.1.1, by have := HC5.out; omega, by rw [putV_cycle]; exact HC5.out.1.2.2⟩)
            have OK6 := Aside0.mk (putV_ok OK5.out ra xb HX.out.2.2.1)
            generalize putV v ra xb = v6 at *
            clear s5 s6 s7
            go_wp2_with fail
            refine HP.out.mono ?_
            rintro e w7 ⟨rfl, hi, ht⟩
            have HI7 := Aside0.mk hi
            have HR7 := Aside0.mk (HR6.out.kept ht (Ne.symm HNE.out))
            have HB7 := Aside0.mk (HB6.out.trans ht.below)
            have HT7 := Aside0.mk (show At w7 gx 40 #[.int .u8 xd, .int .u16 xa, .int .u8 xb, .int .u16 xn] from (ht.kept gx HT6.out.lt (fun e => HGX.out e)).trans HT6.out)
            have f7 : w7.cell? ⟨gx, 2, none⟩ = some (.int .u8 xb) := HT7.out.cell 2
            clear hi ht f0 f2 f3
            go_wp2_with fail
            refine (HRP.out _ HR7.out).mono ?_
            rintro e w8 ⟨rfl, hi, ht⟩
            have HR8 := Aside0.mk hi
            have HI8 := Aside0.mk (HI7.out.kept ht HNE.out)
            have HB8 := Aside0.mk (HB7.out.trans ht.below)
            clear hi ht f7
            have HO := Aside0.mk (out_calls W.heap.size g v6 w8 HI8.out OK6.out.wf (HM.out.below HB8.out HGM.out))
            have HRO := Aside0.mk (fun (W1 : World) (h1 : IsR W.heap.size W1 gr v6 cy) => rout_calls W.heap.size gr v6 cy W1 h1 OK6.out.wf)
            generalize outV v6 = ov at *
            go_wp2_with fail
            refine HO.out.mono ?_
            rintro e w20 ⟨rfl, n20, rfl⟩
            go_wp2_with fail
            refine (HRO.out _ (HR8.out.drewN n20)).mono ?_
            rintro e w21 ⟨rfl, hb21⟩
            have HB21 := Aside0.mk hb21
            clear hb21
            go_wp2
            go_roundg ((l.length - i - 1).toNat)
            case measure => have := HL.out; have := HC5.out; omega
            case rel =>
              have := HL.out
              have := HC5.out
              have := HCX.out
              exact ⟨i + 1, v6, cy, by first | rfl | (congr 1), ⟨(HI8.out.drewN n20).below HB21.out, (HR8.out.drewN n20).below HB21.out, OK6.out⟩, ⟨by omega, by omega, by omega, by omega, HCX.out.2.2⟩, ⟨(pw_below_drewN HB8.out n20).trans (HB21.out.mono (pw_below_drewN HB8.out n20).size)⟩⟩
    · have d1 : decide (i < (l.length : Int)) = false := decide_eq_false hlt
      clear hlt
      go_wp2
      go_ret
      exact ⟨rfl, HB.out⟩
end Go.Proofs.YtkmdhpmgbcdlmaaDoor.Wave
