/-
  WaveNil: a nil wave; copies go on by themselves; places of nothing. By the prover of this repo.
-/
import Derived.Test.YtkmdhpmgbcdlmabDoorWavClock
import Derived.Laws.Rows
import Derived.Laws.Tables
import Derived.Deep.WholeRow
namespace Go.Proofs.YtkmdhpmgbcdlmabDoor.Wave
open Go.RowKit Go.Proofs.YtkmdhpmgbcdlmabDoorW.PrintWords Go.Proofs.YtkmdhpmgbcdlmabDoorW.PrintLast Go.Proofs.YtkmdhpmgbcdlmabDoorW.PrintMore
set_option linter.unusedVariables false
set_option linter.unusedSimpArgs false
theorem Okv.of {v v' : V} (h : Okv v) (w : Wf v') (a : v'.vn = v.vn ∨ v'.vn = 0) (b : v'.mn = v.mn ∨ v'.mn = 0) (c : v'.wrest = v.wrest ∨ v'.wrest = 0) (d : v'.brest = v.brest ∨ v'.brest = 0) (e : -64 ≤ v'.counter ∧ v'.counter < 64) (f : v'.cycle = v.cycle) : Okv v' := by
  have h1 := h.vn
  have h2 := h.mn
  have h3 := h.wrest
  have h4 := h.brest
  have h5 := h.cycle
  exact ⟨w, by omega, by omega, by omega, by omega, e, by omega⟩
theorem vol_ok {v : V} (h : Okv v) (b : Int) (hb : U8 b) : Okv (vol v b) := h.of (h.wf.vol b hb) (Or.inr rfl) (Or.inl rfl) (Or.inl rfl) (Or.inl rfl) h.counter rfl
theorem Is.kept {base : Nat} {W W' : World} {g gc : Nat} {v : V} (h : Is base W g v) (ht : Turn base W W' (One gc)) (hne : g ≠ gc) : Is base W' g v :=
  ⟨(ht.kept g h.at_.lt (fun e => hne e)).trans h.at_, h.base, h.lt, h.ln, h.lr⟩
set_option maxRecDepth 20000 in
theorem put_nil (W : World) (a b : Int) : Calls Tryd.prog 5 #[.pointer none, .int .u16 a, .int .u8 b] W fun e W' => e = .returned (.tuple #[]) ∧ ∃ n, W' = W.drewN n := by
  go_enter Tryd.func5, Tryd.ntmps5
  go_wp2
  first | go_end0 | ((try simp only [Exit.inBlock, Exit.then]); refine bodyPost_ret (results_none rfl _ _ _) rfl ?_)
  first | exact ⟨rfl, 0, rfl⟩ | exact ⟨rfl, 1, rfl⟩
theorem clock_nil (W : World) : Calls Tryd.prog 6 #[.pointer none] W fun e W' => e = .returned (.tuple #[]) ∧ ∃ n, W' = W.drewN n := by
  go_enter Tryd.func6, Tryd.ntmps6
  go_wp2
  first | go_end0 | ((try simp only [Exit.inBlock, Exit.then]); refine bodyPost_ret (results_none rfl _ _ _) rfl ?_)
  first | exact ⟨rfl, 0, rfl⟩ | exact ⟨rfl, 1, rfl⟩
theorem get_nil (W : World) (a : Int) : Calls Tryd.prog 7 #[.pointer none, .int .u16 a] W fun e W' => e = .returned (.tuple #[.int .u8 0, .bool false]) ∧ ∃ n, W' = W.drewN n := by
  go_enter Tryd.func7, Tryd.ntmps7
  go_wp2
  first | go_ret2 | ((try simp only [Exit.inBlock, Exit.then]); refine bodyPost_ret (results_tmp2 rfl _ _ _) rfl ?_)
  first | exact ⟨rfl, 0, rfl⟩ | exact ⟨rfl, 1, rfl⟩
theorem out_nil (W : World) : Calls Tryd.prog 8 #[.pointer none] W fun e W' => e = .returned (.int .i64 0) ∧ ∃ n, W' = W.drewN n := by
  go_enter Tryd.func8, Tryd.ntmps8
  go_wp2
  go_ret
  first | exact ⟨rfl, 0, rfl⟩ | exact ⟨rfl, 1, rfl⟩
theorem copy_nil (W : World) : Calls Tryd.prog 9 #[.pointer none] W fun e W' => e = .returned (.pointer none) ∧ ∃ n, W' = W.drewN n := by
  go_enter Tryd.func9, Tryd.ntmps9
  go_wp2
  go_ret
  first | exact ⟨rfl, 0, rfl⟩ | exact ⟨rfl, 1, rfl⟩
theorem cells_len {base : Nat} {W : World} {g : Nat} {v : V} (h : Is base W g v) : v.cells.toArray.size = 152 := by
  rw [List.size_toArray]
  unfold V.cells V.tail
  simp only [List.length_append, u8s_len, h.lt, h.ln, h.lr, List.length_cons, List.length_nil]
theorem cells_one (v : V) : v.cells.toArray.all (·.oneCell') = true := by
  refine Array.all_eq_true_iff_forall_mem.2 fun x hx => ?_
  have hx' : x ∈ v.cells := by simpa using hx
  unfold V.cells V.tail u8s at hx'
  simp only [List.mem_append, List.mem_map, List.mem_cons, List.not_mem_nil, or_false] at hx'
  rcases hx' with ((⟨_, _, rfl⟩ | ⟨_, _, rfl⟩) | ⟨_, _, rfl⟩) | h
  · rfl
  · rfl
  · rfl
  · rcases h with rfl | rfl | rfl | rfl | rfl | rfl | rfl | rfl | rfl | rfl | rfl | rfl | rfl <;> rfl
set_option maxRecDepth 20000 in
theorem copy_calls (base : Nat) (g : Nat) (v : V) (W : World) (h : Is base W g v) :
    Calls Tryd.prog 9 #[.pointer (some ⟨g, 0, none⟩)] W fun e W' => ∃ gc, e = .returned (.pointer (some ⟨gc, 0, none⟩)) ∧ Is base W' gc v ∧ Below W.heap.size W W' ∧ W.heap.size ≤ gc := by
  have z := zero_run W
  have hsz : (Tryd.prog.info? 38).map (·.size) = some v.cells.toArray.size := by rw [cells_len h]; kernel_rfl
  have h0 : v0.cells.toArray.size = v.cells.toArray.size := by rw [cells_len h]; decide +kernel
  have HS := Aside0.mk hsz
  have H0 := Aside0.mk h0
  have H1 := Aside0.mk (cells_one v)
  have H := Aside0.mk h
  have HAT := Aside0.mk (show W.heap[g]? = some (.cells v.cells.toArray 38 (0, 0)) from h.at_)
  clear hsz h0 h
  generalize v0.cells.toArray = cs0 at *
  obtain ⟨cs, hcs⟩ : ∃ cs, cs = v.cells.toArray := ⟨_, rfl⟩
  rw [← hcs] at HS H0 H1 HAT
  have HC := Aside0.mk hcs
  clear hcs
  go_enter Tryd.func9, Tryd.ntmps9
  go_wp2_with (first
    | (refine wpList_load_row rfl 38 _ rfl g rfl 38 _ (0, 0) _ HAT.out Tryd.underlying38 rfl HS.out ?_)
    | (refine wpList_store_row rfl 38 _ _ rfl W.heap.size cs rfl rfl 38 cs0 (heap_alloc_new W _) HS.out H0.out H1.out ?_; rw [World.setRow_alloc_new]))
  go_ret
  have hb := H.out.base
  have hl := H.out.at_.lt
  refine ⟨W.heap.size, rfl, ⟨?_, by omega, H.out.lt, H.out.ln, H.out.lr⟩, below_alloc (Below.refl _ _) _, Nat.le_refl _⟩
  rw [← HC.out]
  exact heap_alloc_new W _
set_option maxRecDepth 20000 in
set_option maxHeartbeats 8000000 in
theorem nil_walk (a0 a1 a2 : Int) (W : World) (hm : MS W) (hts : TS W) (hg : 0 < W.heap.size) (hg2 : 1 < W.heap.size) (u0 : 0 ≤ a0 ∧ a0 < 65536) (u1 : U8 a1) (u2 : U8 a2) :
    Calls Tryd.prog 3 #[.int .u16 a0, .int .u8 a1, .int .u8 a2] W fun e W' => e = .returned (.bool true) ∧ Below W.heap.size W W' := by
  have HM := Aside0.mk hm
  have HGM := Aside0.mk hg
  have HTS := Aside0.mk (fun (W1 : World) (hb : Below W.heap.size W W1) => hts.below hb hg2)
  have HG2 := Aside0.mk hg2
  have HU0 := Aside0.mk u0
  have HU1 := Aside0.mk u1
  have HU2 := Aside0.mk u2
  clear hm hts hg hg2 u0 u1 u2
  go_enter Tryd.func3, Tryd.ntmps3
  go_wp2_with (go_at_call 4; refine (awake_calls W HM.out HGM.out).mono ?_; rintro e w1 ⟨rfl, hb⟩; have HB1 := Aside0.mk hb; clear hb)
  refine (put_nil _ _ _).mono ?_
  rintro e w2 ⟨rfl, n2, rfl⟩
  go_wp2_with (first
    | (go_at_call 6; refine (clock_nil _).mono ?_; rintro e w3 ⟨rfl, n3, rfl⟩)
    | (go_at_call 7; refine (get_nil _ _).mono ?_; rintro e w4 ⟨rfl, n4, rfl⟩)
    | (go_at_call 8; refine (out_nil _).mono ?_; rintro e w5 ⟨rfl, n5, rfl⟩)
    | (go_at_call 9; refine (copy_nil _).mono ?_; rintro e w6 ⟨rfl, n6, rfl⟩))
  have HBN := Aside0.mk (pw_below_drewN HB1.out (n2 + n3 + n4 + n5 + n6))
  clear HB1
  generalize w1.drewN (n2 + n3 + n4 + n5 + n6) = wn at *
  refine (new_calls W.heap.size _ HBN.out.size).mono ?_
  rintro e w2 ⟨g, rfl, hi, hb, hg⟩
  have HI2 := Aside0.mk hi; have HB2 := Aside0.mk (HBN.out.trans (hb.mono HBN.out.size)); clear hi hb hg
  go_wp2_with fail
  refine (put_vol W.heap.size g v0 _ HI2.out wf0 (HM.out.below HB2.out HGM.out) 133 ⟨by decide, by decide⟩).mono ?_
  rintro e w3 ⟨rfl, hi, ht⟩
  have HI3 := Aside0.mk hi; have HB3 := Aside0.mk (HB2.out.trans ht.below); clear hi ht
  have HO1 := Aside0.mk (vol_ok okv0 133 ⟨by decide, by decide⟩)
  have WF := Aside0.mk HO1.out.wf
  have E90 := Aside0.mk (show getV (vol v0 133) 16528 = (69, true) from by decide +kernel)
  have E0 := Aside0.mk (show outV (vol v0 133) = 0 from by decide +kernel)
  have EON := Aside0.mk (show ¬ on (vol v0 133) from by decide +kernel)
  clear HI2 HB2 HBN
  generalize vol v0 133 = v1 at *
  go_wp2_with fail
  refine (copy_calls W.heap.size g v1 _ HI3.out).mono ?_
  rintro e w4 ⟨gc, rfl, hi, hb, hgc⟩
  have HNE := Aside0.mk (show g ≠ gc from by have := HI3.out.at_.lt; omega)
  have HC4 := Aside0.mk hi
  have HI4 := Aside0.mk (HI3.out.below hb)
  have HB4 := Aside0.mk (HB3.out.trans (hb.mono HB3.out.size))
  clear hi hb hgc HI3 HB3
  go_wp2_with fail
  refine (put_vol W.heap.size gc v1 _ HC4.out WF.out (HM.out.below HB4.out HGM.out) a1 HU1.out).mono ?_
  rintro e w5 ⟨rfl, hi, ht⟩
  have HC5 := Aside0.mk (show Is W.heap.size w5 gc (vol v1 a1) ∧ Okv (vol v1 a1) from ⟨hi, vol_ok HO1.out a1 HU1.out⟩)
  have HI5 := Aside0.mk (HI4.out.kept ht HNE.out)
  have HB5 := Aside0.mk (HB4.out.trans ht.below)
  clear hi ht HC4 HI4 HB4
  generalize vol v1 a1 = vc at *
  go_wp2_with fail
  go_loopg [50] a2.toNat (fun kq v50 w' => ∃ (j : Int) (vq : V), v50 = .int .u8 j ∧ Aside0 (Is W.heap.size w' gc vq ∧ Okv vq) ∧ Aside0 (Is W.heap.size w' g v1) ∧ Aside0 (j + kq = a2 ∧ 0 ≤ j) ∧ Aside0 (Below W.heap.size W w'))
  case atStart => exact ⟨0, vc, rfl, HC5, HI5, ⟨by have := HU2.out; unfold U8 at this; omega, by decide⟩, HB5⟩
  case round =>
    clear HC5 HI5 HB5
    obtain ⟨j, vq, rfl, HC, HI7, HJK, HB7⟩ := hrel
    by_cases hj : j < a2
    · have d2 : decide (j < a2) = true := decide_eq_true hj
      have wj : IntKind.u8.wrap (j + 1) = j + 1 := by have := HJK.out; have := HU2.out; unfold U8 at this; rw [IntKind.wrap_u8]; omega
      have HCL := Aside0.mk (clock_calls W.heap.size gc vq wr HC.out.1 HC.out.2 (HTS.out _ HB7.out) HG2.out)
      have HJ2 := Aside0.mk hj
      have HON := Aside0.mk (clockV_ok HC.out.2)
      clear hj
      go_wp2_with fail
      refine HCL.out.mono ?_
      rintro e w9 ⟨rfl, hi, ht⟩
      have HC9 := Aside0.mk hi
      have HI9 := Aside0.mk (HI7.out.kept ht HNE.out)
      have HB9 := Aside0.mk (HB7.out.trans ht.below); clear hi ht
      go_wp2
      go_roundg (gk - 1)
      case measure => have := HJK.out; have := HJ2.out; omega
      case rel =>
        have := HJK.out
        have := HJ2.out
        exact ⟨j + 1, _, by first | rfl | (congr 1), ⟨HC9.out, HON.out⟩, HI9, ⟨by omega, by omega⟩, HB9⟩
    · have d2 : decide (j < a2) = false := decide_eq_false hj
      clear hj HC
      have hu := HU0.out
      by_cases h1 : a0 < 16448
      · have k1 : decide (a0 < 16512) = true := decide_eq_true (by omega)
        have k3 : decide (16448 ≤ a0) = false := decide_eq_false (by omega)
        have k4 : (a0 == 16528) = false := beq_eq_false_iff_ne.2 (by omega)
        have k5 : (a0 == 16530) = false := beq_eq_false_iff_ne.2 (by omega)
        have hpv : putV v1 a0 a1 = v1 := by unfold putV; rw [if_pos (.inl h1)]
        have hgv : getV v1 a0 = (0, false) := by unfold getV; rw [if_neg (by omega), if_neg (by omega), if_neg (by omega)]
        clear h1 hu
        go_wp2_with fail
        refine (put_all W.heap.size g v1 _ HI7.out WF.out (HM.out.below HB7.out HGM.out) a0 HU0.out.1 HU0.out.2 a1 HU1.out).mono ?_
        rintro e w8 ⟨rfl, hi, ht⟩
        rw [hpv] at hi
        have HI8 := Aside0.mk hi
        have HB8 := Aside0.mk (HB7.out.trans ht.below)
        clear hi ht
        go_wp2_with fail
        refine (get_calls W.heap.size g v1 _ HI8.out WF.out 16528 (by decide) (by decide)).mono ?_
        rintro e w9 ⟨rfl, rfl⟩
        rw [E90.out]
        go_wp2_with fail
        refine (get_calls W.heap.size g v1 _ HI8.out WF.out a0 HU0.out.1 HU0.out.2).mono ?_
        rintro e w10 ⟨rfl, rfl⟩
        rw [hgv]
        have HO := Aside0.mk (out_calls W.heap.size g v1 _ HI8.out WF.out (HM.out.below HB8.out HGM.out))
        rw [E0.out] at HO
        go_wp2_with (go_at_call 8; refine HO.out.mono ?_; rintro e w11 ⟨rfl, n11, rfl⟩)
        go_ret
        exact ⟨by first | rfl | simp, pw_below_drewN HB8.out n11⟩
      by_cases h2 : a0 < 16512
      · have k1 : decide (a0 < 16512) = true := decide_eq_true h2
        have k3 : decide (16448 ≤ a0) = true := decide_eq_true (by omega)
        have k4 : (a0 == 16528) = false := beq_eq_false_iff_ne.2 (by omega)
        have k5 : (a0 == 16530) = false := beq_eq_false_iff_ne.2 (by omega)
        have hpv : putV v1 a0 a1 = v1 := by unfold putV tab; rw [if_neg (by omega), if_pos h2, if_neg EON.out]
        obtain ⟨gx, hgv⟩ : ∃ gx, getV v1 a0 = (gx, true) := ⟨_, by unfold getV; rw [if_pos ⟨by omega, h2⟩]⟩
        clear h1 h2 hu
        go_wp2_with fail
        refine (put_all W.heap.size g v1 _ HI7.out WF.out (HM.out.below HB7.out HGM.out) a0 HU0.out.1 HU0.out.2 a1 HU1.out).mono ?_
        rintro e w8 ⟨rfl, hi, ht⟩
        rw [hpv] at hi
        have HI8 := Aside0.mk hi
        have HB8 := Aside0.mk (HB7.out.trans ht.below)
        clear hi ht
        go_wp2_with fail
        refine (get_calls W.heap.size g v1 _ HI8.out WF.out 16528 (by decide) (by decide)).mono ?_
        rintro e w9 ⟨rfl, rfl⟩
        rw [E90.out]
        go_wp2_with fail
        refine (get_calls W.heap.size g v1 _ HI8.out WF.out a0 HU0.out.1 HU0.out.2).mono ?_
        rintro e w10 ⟨rfl, rfl⟩
        rw [hgv]
        have HO := Aside0.mk (out_calls W.heap.size g v1 _ HI8.out WF.out (HM.out.below HB8.out HGM.out))
        rw [E0.out] at HO
        go_wp2_with (go_at_call 8; refine HO.out.mono ?_; rintro e w11 ⟨rfl, n11, rfl⟩)
        go_ret
        exact ⟨by first | rfl | simp, pw_below_drewN HB8.out n11⟩
      by_cases h3 : 16522 < a0
      · have k1 : decide (a0 < 16512) = false := decide_eq_false h2
        have k2 : decide (16522 < a0) = true := decide_eq_true h3
        have k3 : decide (16448 ≤ a0) = true := decide_eq_true (by omega)
        have hpv : putV v1 a0 a1 = v1 := by unfold putV; rw [if_pos (.inr (by omega))]
        by_cases h4 : a0 = 16528
        · have k4 : (a0 == 16528) = true := beq_iff_eq.2 h4
          obtain ⟨gx, hgv⟩ : ∃ gx, getV v1 a0 = (gx, true) := ⟨_, by unfold getV; rw [if_neg (by omega), if_pos h4]⟩
          clear h1 h2 h3 h4 hu
          go_wp2_with fail
          refine (put_all W.heap.size g v1 _ HI7.out WF.out (HM.out.below HB7.out HGM.out) a0 HU0.out.1 HU0.out.2 a1 HU1.out).mono ?_
          rintro e w8 ⟨rfl, hi, ht⟩
          rw [hpv] at hi
          have HI8 := Aside0.mk hi
          have HB8 := Aside0.mk (HB7.out.trans ht.below)
          clear hi ht
          go_wp2_with fail
          refine (get_calls W.heap.size g v1 _ HI8.out WF.out 16528 (by decide) (by decide)).mono ?_
          rintro e w9 ⟨rfl, rfl⟩
          rw [E90.out]
          go_wp2_with fail
          refine (get_calls W.heap.size g v1 _ HI8.out WF.out a0 HU0.out.1 HU0.out.2).mono ?_
          rintro e w10 ⟨rfl, rfl⟩
          rw [hgv]
          have HO := Aside0.mk (out_calls W.heap.size g v1 _ HI8.out WF.out (HM.out.below HB8.out HGM.out))
          rw [E0.out] at HO
          go_wp2_with (go_at_call 8; refine HO.out.mono ?_; rintro e w11 ⟨rfl, n11, rfl⟩)
          go_ret
          exact ⟨by first | rfl | simp, pw_below_drewN HB8.out n11⟩
        by_cases h5 : a0 = 16530
        · have k4 : (a0 == 16528) = false := beq_eq_false_iff_ne.2 h4
          have k5 : (a0 == 16530) = true := beq_iff_eq.2 h5
          obtain ⟨gx, hgv⟩ : ∃ gx, getV v1 a0 = (gx, true) := ⟨_, by unfold getV; rw [if_neg (by omega), if_neg h4, if_pos h5]⟩
          clear h1 h2 h3 h4 h5 hu
          go_wp2_with fail
          refine (put_all W.heap.size g v1 _ HI7.out WF.out (HM.out.below HB7.out HGM.out) a0 HU0.out.1 HU0.out.2 a1 HU1.out).mono ?_
          rintro e w8 ⟨rfl, hi, ht⟩
          rw [hpv] at hi
          have HI8 := Aside0.mk hi
          have HB8 := Aside0.mk (HB7.out.trans ht.below)
          clear hi ht
          go_wp2_with fail
          refine (get_calls W.heap.size g v1 _ HI8.out WF.out 16528 (by decide) (by decide)).mono ?_
          rintro e w9 ⟨rfl, rfl⟩
          rw [E90.out]
          go_wp2_with fail
          refine (get_calls W.heap.size g v1 _ HI8.out WF.out a0 HU0.out.1 HU0.out.2).mono ?_
          rintro e w10 ⟨rfl, rfl⟩
          rw [hgv]
          have HO := Aside0.mk (out_calls W.heap.size g v1 _ HI8.out WF.out (HM.out.below HB8.out HGM.out))
          rw [E0.out] at HO
          go_wp2_with (go_at_call 8; refine HO.out.mono ?_; rintro e w11 ⟨rfl, n11, rfl⟩)
          go_ret
          exact ⟨by first | rfl | simp, pw_below_drewN HB8.out n11⟩
        have k4 : (a0 == 16528) = false := beq_eq_false_iff_ne.2 h4
        have k5 : (a0 == 16530) = false := beq_eq_false_iff_ne.2 h5
        have hgv : getV v1 a0 = (0, false) := by unfold getV; rw [if_neg (by omega), if_neg h4, if_neg h5]
        clear h1 h2 h3 h4 h5 hu
        go_wp2_with fail
        refine (put_all W.heap.size g v1 _ HI7.out WF.out (HM.out.below HB7.out HGM.out) a0 HU0.out.1 HU0.out.2 a1 HU1.out).mono ?_
        rintro e w8 ⟨rfl, hi, ht⟩
        rw [hpv] at hi
        have HI8 := Aside0.mk hi
        have HB8 := Aside0.mk (HB7.out.trans ht.below)
        clear hi ht
        go_wp2_with fail
        refine (get_calls W.heap.size g v1 _ HI8.out WF.out 16528 (by decide) (by decide)).mono ?_
        rintro e w9 ⟨rfl, rfl⟩
        rw [E90.out]
        go_wp2_with fail
        refine (get_calls W.heap.size g v1 _ HI8.out WF.out a0 HU0.out.1 HU0.out.2).mono ?_
        rintro e w10 ⟨rfl, rfl⟩
        rw [hgv]
        have HO := Aside0.mk (out_calls W.heap.size g v1 _ HI8.out WF.out (HM.out.below HB8.out HGM.out))
        rw [E0.out] at HO
        go_wp2_with (go_at_call 8; refine HO.out.mono ?_; rintro e w11 ⟨rfl, n11, rfl⟩)
        go_ret
        exact ⟨by first | rfl | simp, pw_below_drewN HB8.out n11⟩
      · have k1 : decide (a0 < 16512) = false := decide_eq_false h2
        have k2 : decide (16522 < a0) = false := decide_eq_false h3
        have k3 : decide (16448 ≤ a0) = true := decide_eq_true (by omega)
        have k4 : (a0 == 16528) = false := beq_eq_false_iff_ne.2 (by omega)
        have k5 : (a0 == 16530) = false := beq_eq_false_iff_ne.2 (by omega)
        have hgv : getV v1 a0 = (0, false) := by unfold getV; rw [if_neg (by omega), if_neg (by omega), if_neg (by omega)]
        clear h1 h2 h3 hu
        have HI8 := HI7
        have HB8 := HB7
        clear HI7 HB7
        go_wp2_with fail
        refine (get_calls W.heap.size g v1 _ HI8.out WF.out 16528 (by decide) (by decide)).mono ?_
        rintro e w9 ⟨rfl, rfl⟩
        rw [E90.out]
        go_wp2_with fail
        refine (get_calls W.heap.size g v1 _ HI8.out WF.out a0 HU0.out.1 HU0.out.2).mono ?_
        rintro e w10 ⟨rfl, rfl⟩
        rw [hgv]
        have HO := Aside0.mk (out_calls W.heap.size g v1 _ HI8.out WF.out (HM.out.below HB8.out HGM.out))
        rw [E0.out] at HO
        go_wp2_with (go_at_call 8; refine HO.out.mono ?_; rintro e w11 ⟨rfl, n11, rfl⟩)
        go_ret
        exact ⟨by first | rfl | simp, pw_below_drewN HB8.out n11⟩
end Go.Proofs.YtkmdhpmgbcdlmabDoor.Wave
