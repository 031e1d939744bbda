/-
  WaveRanges: what is put out is never below 0 nor above 60480. By the prover of this repo.
-/
import Derived.Test.YtkmdhpmgbcdlmaaDoorWavSlopes
import Derived.Test.YtkmdhpmgbcdlmaaDoorWavActs
namespace Go.Proofs.YtkmdhpmgbcdlmaaDoor.Wave
open Go.RowKit Go.Proofs.YtkmdhpmgbcdlmaaDoorW.PrintWords Go.Proofs.YtkmdhpmgbcdlmaaDoorW.PrintLast Go.Proofs.YtkmdhpmgbcdlmaaDoorW.PrintMore
set_option linter.unusedVariables false
set_option linter.unusedSimpArgs false
set_option maxRecDepth 20000 in
set_option maxHeartbeats 8000000 in
theorem ranges_walk (l : List Act) (A0 : Option Addr) (c0 : Nat) (W : World) (hm : MS W) (hts : TS W) (hg : 0 < W.heap.size) (hg2 : 1 < W.heap.size) (hA : Acts W A0 l) (hok : ∀ i, (ga l i).ok) (hlen : l.length ≤ 9223372036854775807) :
    Calls Tryd.prog 6 #[.slice A0 l.length c0] W fun e W' => e = .returned (.bool true) ∧ Below W.heap.size W W' := by
  have HM := Aside0.mk hm
  have HGM := Aside0.mk hg
  have HTS := Aside0.mk (fun (W1 : World) (hb : Below W.heap.size W W1) => hts.below hb hg2)
  have HG2 := Aside0.mk hg2
  have HA := Aside0.mk hA
  have HOK := Aside0.mk hok
  have HLN := Aside0.mk hlen
  clear hm hts hg hg2 hA hok hlen
  go_enter Tryd.func6, Tryd.ntmps6
  go_wp2_with (go_at_call 9; refine (awake_calls W HM.out HGM.out).mono ?_; rintro e w1 ⟨rfl, hb⟩; have HB1 := Aside0.mk hb; clear hb)
  refine (new_calls W.heap.size _ HB1.out.size).mono ?_
  rintro e w2 ⟨g, rfl, hi, hb, hg⟩
  have HI2 := Aside0.mk hi; have HB2 := Aside0.mk (HB1.out.trans (hb.mono HB1.out.size)); clear hi hb hg
  go_wp2_with fail
  go_loopg [12] l.length (fun kq v12 w' => ∃ (i : Int) (v : V), v12 = .int .i64 i ∧ Aside0 (Is W.heap.size w' g v ∧ Okv v ∧ i + kq = l.length ∧ 0 ≤ i) ∧ Aside0 (Below W.heap.size W w'))
  case atStart => exact ⟨0, v0, rfl, ⟨HI2.out, okv0, by omega, by decide⟩, HB2⟩
  case round =>
    clear HI2 HB2 HB1
    obtain ⟨i, v, rfl, HR, HB⟩ := hrel
    by_cases hlt : i < l.length
    · have d1 : decide (i < (l.length : Int)) = true := decide_eq_true hlt
      have hi0 := HR.out.2.2.2
      obtain ⟨ad, ea, ha⟩ := HA.out i hi0 hlt
      subst ea
      have ha2 : Act.at_ wr (ad.add (i.toNat * 4)) (ga l i) := by
        have hl_ := World.block_lt_of_cell? W _ ha.1
        exact ⟨(HB.out.cell hl_).trans ha.1, (HB.out.cell (p := ⟨(ad.add (i.toNat * 4)).block, (ad.add (i.toNat * 4)).off + 1, none⟩) hl_).trans ha.2.1, (HB.out.cell (p := ⟨(ad.add (i.toNat * 4)).block, (ad.add (i.toNat * 4)).off + 2, none⟩) hl_).trans ha.2.2.1, (HB.out.cell (p := ⟨(ad.add (i.toNat * 4)).block, (ad.add (i.toNat * 4)).off + 3, none⟩) hl_).trans ha.2.2.2⟩
      obtain ⟨x0, x1, x2, x3⟩ := ha2
      have ok := HOK.out i
      have q0 := eq_true hi0
      have q1 := eq_true hlt
      have e1 : wrap64 (i + 1) = i + 1 := wr64 (by omega) (by have := HLN.out; omega)
      have HL := Aside0.mk (And.intro hlt hi0)
      clear ha
      generalize ga l i = x at *
      obtain ⟨xd, xa, xb, xn⟩ := x
      obtain ⟨o1, o2, o3, o4⟩ := ok
      dsimp only at x0 x1 x2 x3 o1 o2 o3 o4
      have m1 : xd.tmod 8 = xd % 8 := Int.tmod_eq_emod_of_nonneg o1.1
      have m2 : xa.tmod 84 = xa % 84 := Int.tmod_eq_emod_of_nonneg o2.1
      have m3 : xn.tmod 500 = xn % 500 := Int.tmod_eq_emod_of_nonneg o4.1
      have m4 : IntKind.u16.wrap (16448 + xa % 84) = 16448 + xa % 84 := by rw [IntKind.wrap_u16]; omega
      have h2 : 0 ≤ xa % 84 ∧ xa % 84 < 84 := by omega
      have h3 : 0 ≤ xn % 500 ∧ xn % 500 < 500 := by omega
      generalize xa % 84 = ra at *
      generalize xn % 500 = rn at *
      have HX := Aside0.mk (And.intro h2 (And.intro h3 o3))
      clear hlt hi0 o1 o2 o3 o4 h2 h3
      by_cases hb : 40 ≤ i
      · have k1 : decide (40 ≤ i) = true := decide_eq_true hb
        clear hb
        go_wp2
        go_ret
        exact ⟨rfl, below_alloc HB.out _⟩
      · have k1 : decide (40 ≤ i) = false := decide_eq_false hb
        clear hb
        go_upto_if 22 with fail
        have HT5 := Aside0.mk (show At (wr.alloc (.cells #[.int .u8 xd, .int .u16 xa, .int .u8 xb, .int .u16 xn] 40)) wr.heap.size 40 #[.int .u8 xd, .int .u16 xa, .int .u8 xb, .int .u16 xn] from heap_alloc_new wr _)
        have HI5 := Aside0.mk (show Is W.heap.size (wr.alloc (.cells #[.int .u8 xd, .int .u16 xa, .int .u8 xb, .int .u16 xn] 40)) g v from HR.out.1.below (below_alloc (Below.refl _ _) _))
        have HB5 := Aside0.mk (below_alloc HB.out (.cells #[.int .u8 xd, .int .u16 xa, .int .u8 xb, .int .u16 xn] 40))
        have HR5 := Aside0.mk HR.out.2
        clear HR HB x0 x1 x2 x3
        generalize wr.alloc (.cells #[.int .u8 xd, .int .u16 xa, .int .u8 xb, .int .u16 xn] 40) = w5 at *
        generalize wr.heap.size = gx at *
        have f1 : w5.cell? ⟨gx, 1, none⟩ = some (.int .u16 xa) := HT5.out.cell 1
        have f2 : w5.cell? ⟨gx, 2, none⟩ = some (.int .u8 xb) := HT5.out.cell 2
        have f3 : w5.cell? ⟨gx, 3, none⟩ = some (.int .u16 xn) := HT5.out.cell 3
        generalize decide (xd % 8 < 5) = qd at *
        go_cut [] (fun wc => ∃ v' : V, Aside0 (Is W.heap.size wc g v' ∧ Okv v') ∧ Aside0 (Below W.heap.size W wc))
        case first =>
          cases qd
          rotate_left
          · go_wp2_with fail
            refine (put_all W.heap.size g v w5 HI5.out HR5.out.1.wf (HM.out.below HB5.out HGM.out) (16448 + ra) (by have := HX.out; omega) (by have := HX.out; omega) xb HX.out.2.2).mono ?_
            rintro e w6 ⟨rfl, hi, ht⟩
            have HI6 := Aside0.mk (show Is W.heap.size w6 g (putV v (16448 + ra) xb) ∧ Okv (putV v (16448 + ra) xb) from ⟨hi, putV_ok HR5.out.1 _ _ HX.out.2.2⟩)
            have HB6 := Aside0.mk (HB5.out.trans ht.below)
            clear hi ht
            go_wp2
            go_meet
            case rel => exact ⟨_, HI6, HB6⟩
          · go_wp2_with fail
            go_loopg [34] rn.toNat (fun kq v34 w' => ∃ (j : Int) (v' : V), v34 = .int .u16 j ∧ Aside0 (Is W.heap.size w' g v' ∧ Okv v') ∧ Aside0 (j + kq = rn ∧ 0 ≤ j) ∧ Aside0 (Below W.heap.size W w'))
            case atStart => exact ⟨0, v, rfl, ⟨HI5.out, HR5.out.1⟩, ⟨by have := HX.out; omega, by decide⟩, HB5⟩
            case round =>
              obtain ⟨j, v', rfl, HV, HJK, HB⟩ := hrel
              by_cases hj : j < rn
              · have d2 : decide (j < rn) = true := decide_eq_true hj
                have wj : IntKind.u16.wrap (j + 1) = j + 1 := by have := HJK.out; have := HX.out; rw [IntKind.wrap_u16]; omega
                have HCL := Aside0.mk (clock_calls W.heap.size g v' wr HV.out.1 HV.out.2 (HTS.out _ HB.out) HG2.out)
                have HJ2 := Aside0.mk hj
                have HON := Aside0.mk (clockV_ok HV.out.2)
                clear hj
                go_wp2_with fail
                refine HCL.out.mono ?_
                rintro e w9 ⟨rfl, hi, ht⟩
                have HI9 := Aside0.mk hi; have HB9 := Aside0.mk (HB.out.trans ht.below); clear hi ht
                go_wp2
                go_roundg (gk - 1)
                case measure => have := HJK.out; have := HJ2.out; omega
                case rel =>
                  have := HJK.out
                  have := HJ2.out
                  exact ⟨j + 1, _, by first | rfl | (congr 1), ⟨HI9.out, HON.out⟩, ⟨by omega, by omega⟩, HB9⟩
              · have d2 : decide (j < rn) = false := decide_eq_false hj
                clear hj
                go_wp2
                go_meet
                case rel => exact ⟨_, HV, HB⟩
        case rest =>
          obtain ⟨v', HV, HB⟩ := hcut
          clear HI5 HB5 HT5 f1 f2 f3
          have hr := out_range HV.out.2.wf
          have HO := Aside0.mk (out_calls W.heap.size g v' wc HV.out.1 HV.out.2.wf (HM.out.below HB.out HGM.out))
          generalize outV v' = ov at *
          have k3 : decide (ov < 0) = false := decide_eq_false (by omega)
          have k4 : decide (60480 < ov) = false := decide_eq_false (by omega)
          clear hr
          go_wp2_with (go_at_call 12; refine HO.out.mono ?_; rintro e w10 ⟨rfl, n10, rfl⟩)
          go_roundg ((l.length - i - 1).toNat)
          case measure => have := HR5.out; have := HL.out; omega
          case rel =>
            have := HR5.out.2
            have := HL.out
            exact ⟨i + 1, v', by first | rfl | (congr 1), ⟨HV.out.1.drewN n10, HV.out.2, by omega, by omega⟩, ⟨pw_below_drewN HB.out n10⟩⟩
    · have d1 : decide (i < (l.length : Int)) = false := decide_eq_false hlt
      clear hlt
      go_wp2
      go_ret
      exact ⟨rfl, HB.out⟩
end Go.Proofs.YtkmdhpmgbcdlmaaDoor.Wave
