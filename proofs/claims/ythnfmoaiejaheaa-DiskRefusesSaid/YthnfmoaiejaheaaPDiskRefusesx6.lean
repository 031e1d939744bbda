-- made by a program of this repo (wip/patch_print.py); not trusted: Lean checks it
import Derived.Test.YthnfmoaiejaheaaPDiskRefusesx0
import Derived.Test.YthnfmoaiejaheaaPDiskRefusesx1
import Derived.Test.YthnfmoaiejaheaaPDiskRefusesx5
-- squeezed
namespace Go.Proofs.Ythnfmoaiejaheaa.PDiskRefuses
open Go.RowKit Go.Proofs.YthnfmoaiejaheaaW.PrintWords Go.Proofs.YthnfmoaiejaheaaW.PrintLast Go.Proofs.YthnfmoaiejaheaaW.PrintMore
attribute [local go_sem] max2_int min2_int max_two min_two max_three min_three max_four min_four   -- for this text's walks alone
set_option linter.unusedVariables false
set_option linter.unusedSimpArgs false

/-! ### disk_Set_To: function 26 -/
mutual
def disk_Set_To.j0 : Nat → Int → Bool → Int → List (List Int) → Option (Int × (List (List Int)) × Int)
 | 0, _, _, _, _ => none
 | k + 1, x1, x21, x240000, x240001 => if x21 = true then (some (0, ([] : List (List Int)), 1)) else (disk_Set_To.l0 k x1 x240001 (x240001.length : Int) 0 x240000 x240001 x1 ([] : List (List Int)))
def disk_Set_To.l0 : Nat → Int → List (List Int) → Int → Int → Int → List (List Int) → Int → List (List Int) → Option (Int × (List (List Int)) × Int)
 | 0, _, _, _, _, _, _, _, _ => none
 | k + 1, x1, x26, x27, x28, x240000, x240001, x243000, x243001 => if x28 < x27 then (if 0 ≤ x28 then (if x28 < (x26.length : Int) then ((disk_other.f k (rd_L1 x26 x28) x240000 x1).bind fun bt244 => (if bt244.2 = 0 then (if x243001.length < 5864062014805 then (disk_Set_To.l0 k x1 x26 x27 (wrap64 (x28 + 1)) x240000 x240001 x243000 (x243001 ++ [bt244.1])) else (none)) else (some (0, ([] : List (List Int)), bt244.2)))) else (none)) else (none)) else (some (x243000, x243001, 0))
end
def disk_Set_To.f (k : Nat) (a0_0 : Int) (l0_1 : List (List Int)) (a1 : Int) : Option (Int × (List (List Int)) × Int) := (disk_Set_Right.f k a0_0 l0_1).bind fun t241 => (if t241 = true then (if a1 < 1 then (disk_Set_To.j0 k a1 true a0_0 l0_1) else (disk_Set_To.j0 k a1 (decide (a1 > 3)) a0_0 l0_1)) else (disk_Set_To.j0 k a1 true a0_0 l0_1))
set_option maxHeartbeats 8000000 in
set_option maxRecDepth 100000 in
theorem disk_Set_To.callsR (k : Nat) (a0_0 : Int) (A0_1 : Option Addr) (c0_1 : Nat) (l0_1 : List (List Int)) (a1 : Int) (r1 : Int) (r2 : List (List Int)) (r3 : Int) (w : World) (hr0_1 : Kd.C (Kd.slice 5 (Kd.int .u8)) w A0_1 l0_1.length l0_1) (hc0_1 : l0_1.length ≤ c0_1) (h : disk_Set_To.f k a0_0 l0_1 a1 = some (r1, r2, r3)) :
  Calls Try.prog 26 #[.agg #[.int .u8 a0_0, .slice A0_1 l0_1.length c0_1], .int .u8 a1] w fun e w' => ∃ v1_ : Value, e = .returned (.tuple #[.agg #[.int .u8 r1, v1_], .int .i64 r3]) ∧ Kd.N (Kd.slice 5 (Kd.int .u8)) 22 w' w.heap.size (fun k_ => (w.heap.size ≤ k_)) v1_ r2 ∧ Below w.heap.size w w' := by
 have hu30 := Try.underlying30
 have HR0_1 := Aside0.mk hr0_1
 have HC0_1 := Aside0.mk hc0_1
 clear hr0_1 hc0_1
 have HB := Aside0.mk (Below.refl w.heap.size w)
 have H : ((disk_Set_Right.f k a0_0 l0_1).bind fun t241 => (if t241 = true then (if a1 < 1 then (disk_Set_To.j0 k a1 true a0_0 l0_1) else (disk_Set_To.j0 k a1 (decide (a1 > 3)) a0_0 l0_1)) else (disk_Set_To.j0 k a1 true a0_0 l0_1))) = some (r1, r2, r3) := h
 clear h
 have HC3 := Aside0.mk H
 clear H
 go_enter Try.func26, Try.ntmps26
 go_upto_region 1 with (first | ((with_reducible refine gate_dst (N := 2) rfl ?_); refine box_event ?hg (N := 2) ?hd (cs := #[.int .u8 a0_0, .slice A0_1 l0_1.length c0_1]) (t := 30) ?hr ?_; (case hd => rfl); (case hg => rfl); (case hr => first | (go_simp; done) | (go_simp; rfl)); intro gb239 hg w4 hbox hb; have n0_ := Aside0.mk (below_step (by repeat (first | (with_reducible first | exact HB.out | apply below_alloc | apply pw_below_drewN | apply below_drew1) | exact HB.out)) hb); have n1_ := Aside0.mk (hbox); have n2_ := Aside0.mk ((by rw [hg]; exact (below_size (by repeat (first | (with_reducible first | exact HB.out | apply below_alloc | apply pw_below_drewN | apply below_drew1) | exact HB.out))) : w.heap.size ≤ gb239)); have n3_ := Aside0.mk ((by rw [hg]; exact (below_size (by repeat (first | (with_reducible first | exact HB.out | apply below_alloc | apply pw_below_drewN | apply below_drew1) | exact HB.out))) : w.heap.size ≤ gb239)); clear HB; have HB := n0_; have BK239 := n1_; have GW239 := n2_; have GE239 := n3_; clear n0_ n1_ n2_ n3_; clear hb hbox hg) | ((with_reducible refine gate_dst (N := 4) rfl ?_); refine box_event ?hg (N := 4) ?hd (cs := #[.int .u8 0, .slice none 0 0]) (t := 30) ?hr ?_; (case hd => rfl); (case hg => rfl); (case hr => first | (go_simp; done) | (go_simp; rfl)); intro gb240 hg w5 hbox hb; have n0_ := Aside0.mk (blk_below (g := gb239) (o := .cells #[.int .u8 a0_0, .slice A0_1 l0_1.length c0_1] 30 (0, 0)) (by (with_reducible repeat (first | refine blk_drewN ?_ _ | refine blk_drew ?_ | refine blk_alloc ?_ _)); exact BK239.out) hb); have n1_ := Aside0.mk (below_step (by repeat (first | (with_reducible first | exact HB.out | apply below_alloc | apply pw_below_drewN | apply below_drew1 | refine below_set ?_ GE239.out) | exact HB.out)) hb); have n2_ := Aside0.mk (hbox); have n3_ := Aside0.mk ((by rw [hg]; exact (below_size (by repeat (first | (with_reducible first | exact HB.out | apply below_alloc | apply pw_below_drewN | apply below_drew1 | refine below_set ?_ GE239.out) | exact HB.out))) : w.heap.size ≤ gb240)); have n4_ := Aside0.mk ((by rw [hg]; exact (below_size (by repeat (first | (with_reducible first | exact HB.out | apply below_alloc | apply pw_below_drewN | apply below_drew1 | refine below_set ?_ GE239.out) | exact HB.out))) : w.heap.size ≤ gb240)); have n5_ := Aside0.mk ((by rw [hg]; exact Nat.ne_of_lt (blk_lt (g := gb239) (o := .cells #[.int .u8 a0_0, .slice A0_1 l0_1.length c0_1] 30 (0, 0)) (by (with_reducible repeat (first | refine blk_drewN ?_ _ | refine blk_drew ?_ | refine blk_alloc ?_ _)); exact BK239.out)) : gb239 ≠ gb240)); have n6_ := Aside0.mk ((by rw [hg]; exact Nat.ne_of_gt (blk_lt (g := gb239) (o := .cells #[.int .u8 a0_0, .slice A0_1 l0_1.length c0_1] 30 (0, 0)) (by (with_reducible repeat (first | refine blk_drewN ?_ _ | refine blk_drew ?_ | refine blk_alloc ?_ _)); exact BK239.out)) : gb240 ≠ gb239)); clear BK239; clear HB; have BK239 := n0_; have HB := n1_; have BK240 := n2_; have GW240 := n3_; have GE240 := n4_; have NB239_240 := n5_; have NB240_239 := n6_; clear n0_ n1_ n2_ n3_ n4_ n5_ n6_; clear hb hbox hg))
 (try simp only [Act.put, List.setIfInBounds_toArray, List.set_cons_zero, List.set_cons_succ])
 go_cut [21] (fun v21 wc => ∃ (kq : Nat) (x21_2 : Bool), v21 = .bool x21_2 ∧ Aside0 (disk_Set_To.j0 kq a1 x21_2 a0_0 l0_1 = some (r1, r2, r3)) ∧ Aside0 (kq ≤ k) ∧ Aside0 (wc.heap[gb239]? = some (.cells #[.int .u8 a0_0, (.slice A0_1 l0_1.length c0_1)] 30 (0, 0))) ∧ Aside0 (wc.heap[gb240]? = some (.cells #[.int .u8 0, (.slice none 0 0)] 30 (0, 0))) ∧ Aside0 (Below w.heap.size w wc))
 case first =>
  have H := HC3.out
  clear HC3
  replace H := Option.bind_eq_some_iff.mp H
  obtain ⟨t241, A60, H⟩ := H
  replace H : (if t241 = true then (if a1 < 1 then (disk_Set_To.j0 k a1 true a0_0 l0_1) else (disk_Set_To.j0 k a1 (decide (a1 > 3)) a0_0 l0_1)) else (disk_Set_To.j0 k a1 true a0_0 l0_1)) = some (r1, r2, r3) := H
  have A6 := Aside0.mk A60
  clear A60
  by_cases c7 : t241 = true
  ·subst c7
   have H1 : (if a1 < 1 then (disk_Set_To.j0 k a1 true a0_0 l0_1) else (disk_Set_To.j0 k a1 (decide (a1 > 3)) a0_0 l0_1)) = some (r1, r2, r3) := by rw [if_pos rfl] at H; exact H
   clear H
   have H := H1
   clear H1
   by_cases c8 : a1 < 1
   ·rw [if_pos c8] at H
    have c8b0 : decide (a1 < 1) = true := decide_eq_true c8
    clear c8
    (first | rw [c8b0] | (simp only [i64_w, i32_w]; rw [c8b0]) | skip)
    have H' := Aside0.mk H
    clear H
    have hnb9 := NB239_240.out
    have hnc9 := NB240_239.out
    have hcz10_0 : w5.cell? ⟨gb239, 0, none⟩ = some (.int .u8 a0_0) := (blk_cell BK239.out 0).trans rfl
    have hcz10_1 : w5.cell? ⟨gb239, 1, none⟩ = some (.slice A0_1 l0_1.length c0_1) := (blk_cell BK239.out 1).trans rfl
    have hfz10_0 := blk_frozen BK239.out 0
    have hfz10_1 := blk_frozen BK239.out 1
    go_wp2_with (first | ((with_reducible refine gate_callee (f := 16) rfl ?_); refine goesL_ (some 12) rfl rfl Try.func16 (by kernel_rfl) rfl #[.agg #[.int .u8 a0_0, .slice A0_1 l0_1.length c0_1]] rfl (by (try simp only [List.map_toArray, List.map_cons, List.map_nil]); first | done | rfl | (simp only [List.length_drop, List.length_take]; rfl)) ?_; (with_reducible refine (disk_Set_Right.calls k a0_0 _ _ l0_1 true _ ?side1 ?side2 A6.out).mono ?_); (case side1 => repeat (first | exact (Kd.C_below HR0_1.out HB.out) | (with_reducible refine Kd.C_alloc ?_ _) | (with_reducible refine Kd.C_drewN ?_ _) | (with_reducible refine Kd.C_drew ?_))); (case side2 => exact HC0_1.out); rintro e w11 ⟨rfl, hb⟩; refine ⟨_, rfl, ?_⟩; have n0_ := Aside0.mk (blk_below (g := gb239) (o := .cells #[.int .u8 a0_0, .slice A0_1 l0_1.length c0_1] 30 (0, 0)) (by (with_reducible repeat (first | refine blk_drewN ?_ _ | refine blk_drew ?_ | refine blk_alloc ?_ _)); exact BK239.out) hb); have n1_ := Aside0.mk (blk_below (g := gb240) (o := .cells #[.int .u8 0, .slice none 0 0] 30 (0, 0)) (by (with_reducible repeat (first | refine blk_drewN ?_ _ | refine blk_drew ?_ | refine blk_alloc ?_ _)); exact BK240.out) hb); have n2_ := Aside0.mk (below_step (by repeat (first | (with_reducible first | exact HB.out | apply below_alloc | apply pw_below_drewN | apply below_drew1 | refine below_set ?_ GE239.out | refine below_set ?_ GE240.out) | exact HB.out)) hb); clear BK239; clear BK240; clear HB; have BK239 := n0_; have BK240 := n1_; have HB := n2_; clear n0_ n1_ n2_; (try clear hb); (try clear hb2); (try clear hk); (try clear hi)))
    go_meet
    case rel => exact ⟨_, (true), (by first | rfl | (simp; done) | (simp [*]; done)), H', ⟨by first | omega | exact Nat.le_refl _⟩, ⟨by (with_reducible repeat (first | refine blk_drewN ?_ _ | refine blk_drew ?_ | refine blk_alloc ?_ _)); exact BK239.out⟩, ⟨by (with_reducible repeat (first | refine blk_drewN ?_ _ | refine blk_drew ?_ | refine blk_alloc ?_ _)); exact BK240.out⟩, ⟨by repeat (first | (with_reducible first | exact HB.out | apply below_alloc | apply pw_below_drewN | apply below_drew1 | refine below_set ?_ GE239.out | refine below_set ?_ GE240.out) | exact HB.out)⟩⟩
   ·rw [if_neg c8] at H
    have c8b0 : decide (a1 < 1) = false := decide_eq_false c8
    clear c8
    (first | rw [c8b0] | (simp only [i64_w, i32_w]; rw [c8b0]) | skip)
    have H' := Aside0.mk H
    clear H
    have hnb12 := NB239_240.out
    have hnc12 := NB240_239.out
    have hcz13_0 : w5.cell? ⟨gb239, 0, none⟩ = some (.int .u8 a0_0) := (blk_cell BK239.out 0).trans rfl
    have hcz13_1 : w5.cell? ⟨gb239, 1, none⟩ = some (.slice A0_1 l0_1.length c0_1) := (blk_cell BK239.out 1).trans rfl
    have hfz13_0 := blk_frozen BK239.out 0
    have hfz13_1 := blk_frozen BK239.out 1
    go_wp2_with (first | ((with_reducible refine gate_callee (f := 16) rfl ?_); refine goesL_ (some 12) rfl rfl Try.func16 (by kernel_rfl) rfl #[.agg #[.int .u8 a0_0, .slice A0_1 l0_1.length c0_1]] rfl (by (try simp only [List.map_toArray, List.map_cons, List.map_nil]); first | done | rfl | (simp only [List.length_drop, List.length_take]; rfl)) ?_; (with_reducible refine (disk_Set_Right.calls k a0_0 _ _ l0_1 true _ ?side1 ?side2 A6.out).mono ?_); (case side1 => repeat (first | exact (Kd.C_below HR0_1.out HB.out) | (with_reducible refine Kd.C_alloc ?_ _) | (with_reducible refine Kd.C_drewN ?_ _) | (with_reducible refine Kd.C_drew ?_))); (case side2 => exact HC0_1.out); rintro e w14 ⟨rfl, hb⟩; refine ⟨_, rfl, ?_⟩; have n0_ := Aside0.mk (blk_below (g := gb239) (o := .cells #[.int .u8 a0_0, .slice A0_1 l0_1.length c0_1] 30 (0, 0)) (by (with_reducible repeat (first | refine blk_drewN ?_ _ | refine blk_drew ?_ | refine blk_alloc ?_ _)); exact BK239.out) hb); have n1_ := Aside0.mk (blk_below (g := gb240) (o := .cells #[.int .u8 0, .slice none 0 0] 30 (0, 0)) (by (with_reducible repeat (first | refine blk_drewN ?_ _ | refine blk_drew ?_ | refine blk_alloc ?_ _)); exact BK240.out) hb); have n2_ := Aside0.mk (below_step (by repeat (first | (with_reducible first | exact HB.out | apply below_alloc | apply pw_below_drewN | apply below_drew1 | refine below_set ?_ GE239.out | refine below_set ?_ GE240.out) | exact HB.out)) hb); clear BK239; clear BK240; clear HB; have BK239 := n0_; have BK240 := n1_; have HB := n2_; clear n0_ n1_ n2_; (try clear hb); (try clear hb2); (try clear hk); (try clear hi)))
    go_meet
    case rel => exact ⟨_, (decide (a1 > 3)), (by first | rfl | (simp; done) | (simp [*]; done)), H', ⟨by first | omega | exact Nat.le_refl _⟩, ⟨by (with_reducible repeat (first | refine blk_drewN ?_ _ | refine blk_drew ?_ | refine blk_alloc ?_ _)); exact BK239.out⟩, ⟨by (with_reducible repeat (first | refine blk_drewN ?_ _ | refine blk_drew ?_ | refine blk_alloc ?_ _)); exact BK240.out⟩, ⟨by repeat (first | (with_reducible first | exact HB.out | apply below_alloc | apply pw_below_drewN | apply below_drew1 | refine below_set ?_ GE239.out | refine below_set ?_ GE240.out) | exact HB.out)⟩⟩
  ·replace c7 := Bool.eq_false_iff.mpr c7
   subst c7
   have H1 : (disk_Set_To.j0 k a1 true a0_0 l0_1) = some (r1, r2, r3) := by rw [if_neg (show ¬ (false = true) by decide)] at H; exact H
   clear H
   have H := H1
   clear H1
   have H' := Aside0.mk H
   clear H
   have hnb15 := NB239_240.out
   have hnc15 := NB240_239.out
   have hcz16_0 : w5.cell? ⟨gb239, 0, none⟩ = some (.int .u8 a0_0) := (blk_cell BK239.out 0).trans rfl
   have hcz16_1 : w5.cell? ⟨gb239, 1, none⟩ = some (.slice A0_1 l0_1.length c0_1) := (blk_cell BK239.out 1).trans rfl
   have hfz16_0 := blk_frozen BK239.out 0
   have hfz16_1 := blk_frozen BK239.out 1
   go_wp2_with (first | ((with_reducible refine gate_callee (f := 16) rfl ?_); refine goesL_ (some 12) rfl rfl Try.func16 (by kernel_rfl) rfl #[.agg #[.int .u8 a0_0, .slice A0_1 l0_1.length c0_1]] rfl (by (try simp only [List.map_toArray, List.map_cons, List.map_nil]); first | done | rfl | (simp only [List.length_drop, List.length_take]; rfl)) ?_; (with_reducible refine (disk_Set_Right.calls k a0_0 _ _ l0_1 false _ ?side1 ?side2 A6.out).mono ?_); (case side1 => repeat (first | exact (Kd.C_below HR0_1.out HB.out) | (with_reducible refine Kd.C_alloc ?_ _) | (with_reducible refine Kd.C_drewN ?_ _) | (with_reducible refine Kd.C_drew ?_))); (case side2 => exact HC0_1.out); rintro e w17 ⟨rfl, hb⟩; refine ⟨_, rfl, ?_⟩; have n0_ := Aside0.mk (blk_below (g := gb239) (o := .cells #[.int .u8 a0_0, .slice A0_1 l0_1.length c0_1] 30 (0, 0)) (by (with_reducible repeat (first | refine blk_drewN ?_ _ | refine blk_drew ?_ | refine blk_alloc ?_ _)); exact BK239.out) hb); have n1_ := Aside0.mk (blk_below (g := gb240) (o := .cells #[.int .u8 0, .slice none 0 0] 30 (0, 0)) (by (with_reducible repeat (first | refine blk_drewN ?_ _ | refine blk_drew ?_ | refine blk_alloc ?_ _)); exact BK240.out) hb); have n2_ := Aside0.mk (below_step (by repeat (first | (with_reducible first | exact HB.out | apply below_alloc | apply pw_below_drewN | apply below_drew1 | refine below_set ?_ GE239.out | refine below_set ?_ GE240.out) | exact HB.out)) hb); clear BK239; clear BK240; clear HB; have BK239 := n0_; have BK240 := n1_; have HB := n2_; clear n0_ n1_ n2_; (try clear hb); (try clear hb2); (try clear hk); (try clear hi)))
   go_meet
   case rel => exact ⟨_, (true), (by first | rfl | (simp; done) | (simp [*]; done)), H', ⟨by first | omega | exact Nat.le_refl _⟩, ⟨by (with_reducible repeat (first | refine blk_drewN ?_ _ | refine blk_drew ?_ | refine blk_alloc ?_ _)); exact BK239.out⟩, ⟨by (with_reducible repeat (first | refine blk_drewN ?_ _ | refine blk_drew ?_ | refine blk_alloc ?_ _)); exact BK240.out⟩, ⟨by repeat (first | (with_reducible first | exact HB.out | apply below_alloc | apply pw_below_drewN | apply below_drew1 | refine below_set ?_ GE239.out | refine below_set ?_ GE240.out) | exact HB.out)⟩⟩
 case rest =>
  clear HC3
  try clear c1
  try clear c2
  try clear p2
  try clear c7
  try clear c8
  try clear c8b0
  try clear c9
  try clear c12
  try clear c15
  try clear c16
  try clear hcz10_0
  try clear hcz10_1
  try clear hcz13_0
  try clear hcz13_1
  try clear hcz16_0
  try clear hcz16_1
  try clear hfz10_0
  try clear hfz10_1
  try clear hfz13_0
  try clear hfz13_1
  try clear hfz16_0
  try clear hfz16_1
  obtain ⟨kq, x21_2, rfl, HA, HJ2, BK239, BK240, HB⟩ := hcut
  cases kq with
  | zero => exact absurd HA.out (by simp [disk_Set_To.j0])
  | succ kj2 =>
   have H := HA.out
   clear HA
   simp only [disk_Set_To.j0] at H
   by_cases c18 : x21_2 = true
   ·subst c18
    have H1 : (some (0, ([] : List (List Int)), 1)) = some (r1, r2, r3) := by rw [if_pos rfl] at H; exact H
    clear H
    have H := H1
    clear H1
    simp only [Option.some.injEq, Prod.mk.injEq] at H
    obtain ⟨rfl, rfl, rfl⟩ := H
    have hnb19 := NB240_239.out
    have hnc19 := NB239_240.out
    have hcz20_0 : wc.cell? ⟨gb240, 0, none⟩ = some (.int .u8 0) := (blk_cell BK240.out 0).trans rfl
    have hcz20_1 : wc.cell? ⟨gb240, 1, none⟩ = some (.slice none 0 0) := (blk_cell BK240.out 1).trans rfl
    have hfz20_0 := blk_frozen BK240.out 0
    have hfz20_1 := blk_frozen BK240.out 1
    go_wp2
    refine bodyPost_ret (results_ct rfl _ _ gb240 30 #[.int .u8 0, .slice none 0 0] (0, 0) _ rfl (by (with_reducible repeat (first | refine blk_drewN ?_ _ | refine blk_drew ?_ | refine blk_alloc ?_ _)); refine blk_put (cs := #[.int .u8 0, .slice none 0 0]) ?_ 1 _ rfl; (with_reducible repeat (first | refine blk_drewN ?_ _ | refine blk_drew ?_ | refine blk_alloc ?_ _)); refine blk_put (cs := #[.int .u8 0, .slice none 0 0]) ?_ 0 _ rfl; (with_reducible repeat (first | refine blk_drewN ?_ _ | refine blk_drew ?_ | refine blk_alloc ?_ _)); exact BK240.out) Try.underlying30 rfl (by kernel_rfl)) rfl ?_
    exact ⟨_, by first | rfl | (simp [errW_none, errW_some] <;> rfl) | (simp [*, errW_none, errW_some] <;> rfl), by first | exact Kd.S_nil _ _ _ _ _ | exact Kd.N_nil _ _ _ _ _ | exact Kd.V_nil _ _ _ _ _ | exact Kd.Q_nil _ _ _ _ _ | exact Kd.R_nil _ _ _ _ _, by repeat (first | (with_reducible first | exact HB.out | apply below_alloc | apply pw_below_drewN | apply below_drew1 | refine below_set ?_ GE239.out | refine below_set ?_ GE240.out) | exact HB.out)⟩
   ·replace c18 := Bool.eq_false_iff.mpr c18
    subst c18
    have H1 : (disk_Set_To.l0 kj2 a1 l0_1 (l0_1.length : Int) 0 a0_0 l0_1 a1 ([] : List (List Int))) = some (r1, r2, r3) := by rw [if_neg (show ¬ (false = true) by decide)] at H; exact H
    clear H
    have H := H1
    clear H1
    have H' := Aside0.mk H
    clear H
    go_wp2_with (first | ((with_reducible refine gate_dst (N := 6) rfl ?_); refine box_event ?hg (N := 6) ?hd (cs := #[.int .u8 0, .slice none 0 0]) (t := 30) ?hr ?_; (case hd => rfl); (case hg => rfl); (case hr => first | (go_simp; done) | (go_simp; rfl)); intro gb242 hg w21 hbox hb; have n0_ := Aside0.mk (blk_below (g := gb239) (o := .cells #[.int .u8 a0_0, .slice A0_1 l0_1.length c0_1] 30 (0, 0)) (by (with_reducible repeat (first | refine blk_drewN ?_ _ | refine blk_drew ?_ | refine blk_alloc ?_ _)); exact BK239.out) hb); have n1_ := Aside0.mk (blk_below (g := gb240) (o := .cells #[.int .u8 0, .slice none 0 0] 30 (0, 0)) (by (with_reducible repeat (first | refine blk_drewN ?_ _ | refine blk_drew ?_ | refine blk_alloc ?_ _)); exact BK240.out) hb); have n2_ := Aside0.mk (below_step (by repeat (first | (with_reducible first | exact HB.out | apply below_alloc | apply pw_below_drewN | apply below_drew1 | refine below_set ?_ GE239.out | refine below_set ?_ GE240.out) | exact HB.out)) hb); have n3_ := Aside0.mk (hbox); have n4_ := Aside0.mk ((by rw [hg]; exact (below_size (by repeat (first | (with_reducible first | exact HB.out | apply below_alloc | apply pw_below_drewN | apply below_drew1 | refine below_set ?_ GE239.out | refine below_set ?_ GE240.out) | exact HB.out))) : w.heap.size ≤ gb242)); have n5_ := Aside0.mk ((by rw [hg]; exact (below_size (by repeat (first | (with_reducible first | exact HB.out | apply below_alloc | apply pw_below_drewN | apply below_drew1 | refine below_set ?_ GE239.out | refine below_set ?_ GE240.out) | exact HB.out))) : w.heap.size ≤ gb242)); have n6_ := Aside0.mk ((by rw [hg]; exact Nat.ne_of_lt (blk_lt (g := gb239) (o := .cells #[.int .u8 a0_0, .slice A0_1 l0_1.length c0_1] 30 (0, 0)) (by (with_reducible repeat (first | refine blk_drewN ?_ _ | refine blk_drew ?_ | refine blk_alloc ?_ _)); exact BK239.out)) : gb239 ≠ gb242)); have n7_ := Aside0.mk ((by rw [hg]; exact Nat.ne_of_gt (blk_lt (g := gb239) (o := .cells #[.int .u8 a0_0, .slice A0_1 l0_1.length c0_1] 30 (0, 0)) (by (with_reducible repeat (first | refine blk_drewN ?_ _ | refine blk_drew ?_ | refine blk_alloc ?_ _)); exact BK239.out)) : gb242 ≠ gb239)); have n8_ := Aside0.mk ((by rw [hg]; exact Nat.ne_of_lt (blk_lt (g := gb240) (o := .cells #[.int .u8 0, .slice none 0 0] 30 (0, 0)) (by (with_reducible repeat (first | refine blk_drewN ?_ _ | refine blk_drew ?_ | refine blk_alloc ?_ _)); exact BK240.out)) : gb240 ≠ gb242)); have n9_ := Aside0.mk ((by rw [hg]; exact Nat.ne_of_gt (blk_lt (g := gb240) (o := .cells #[.int .u8 0, .slice none 0 0] 30 (0, 0)) (by (with_reducible repeat (first | refine blk_drewN ?_ _ | refine blk_drew ?_ | refine blk_alloc ?_ _)); exact BK240.out)) : gb242 ≠ gb240)); clear BK239; clear BK240; clear HB; have BK239 := n0_; have BK240 := n1_; have HB := n2_; have BK242 := n3_; have GW242 := n4_; have GE242 := n5_; have NB239_242 := n6_; have NB242_239 := n7_; have NB240_242 := n8_; have NB242_240 := n9_; clear n0_ n1_ n2_ n3_ n4_ n5_ n6_ n7_ n8_ n9_; clear hb hbox hg; have hnb22 := NB242_239.out; have hnc22 := NB239_242.out; have hnb23 := NB242_240.out; have hnc23 := NB240_242.out; have hcz24_0 : w21.cell? ⟨gb242, 0, none⟩ = some (.int .u8 0) := (blk_cell BK242.out 0).trans rfl; have hcz24_1 : w21.cell? ⟨gb242, 1, none⟩ = some (.slice none 0 0) := (blk_cell BK242.out 1).trans rfl; have hfz24_0 := blk_frozen BK242.out 0; have hfz24_1 := blk_frozen BK242.out 1; have hnb25 := NB239_240.out; have hnc25 := NB240_239.out; have hcz26_0 : w21.cell? ⟨gb239, 0, none⟩ = some (.int .u8 a0_0) := (blk_cell BK239.out 0).trans rfl; have hcz26_1 : w21.cell? ⟨gb239, 1, none⟩ = some (.slice A0_1 l0_1.length c0_1) := (blk_cell BK239.out 1).trans rfl; have hfz26_0 := blk_frozen BK239.out 0; have hfz26_1 := blk_frozen BK239.out 1))
    go_loopg [28] kj2 (fun kq v28 w' => ∃ (x28_2 : Int) (x241000_2 : Int) (x243001_2 : List (List Int)) (u243001 : Value), v28 = .int .i64 x28_2 ∧ Aside0 (disk_Set_To.l0 kq a1 l0_1 (l0_1.length : Int) x28_2 a0_0 l0_1 a1 x243001_2 = some (r1, r2, r3)) ∧ Aside0 (kq ≤ kj2) ∧ Aside0 (Kd.N (Kd.slice 5 (Kd.int .u8)) 22 w' w.heap.size (fun k_ => (w.heap.size ≤ k_) ∧ k_ ≠ gb239 ∧ k_ ≠ gb240 ∧ k_ ≠ gb242) u243001 x243001_2) ∧ Aside0 (w'.heap[gb239]? = some (.cells #[.int .u8 a0_0, (.slice A0_1 l0_1.length c0_1)] 30 (0, 0))) ∧ Aside0 (w'.heap[gb240]? = some (.cells #[.int .u8 x241000_2, (.slice none 0 0)] 30 (0, 0))) ∧ Aside0 (w'.heap[gb242]? = some (.cells #[.int .u8 a1, u243001] 30 (0, 0))) ∧ Aside0 (Below w.heap.size w w'))
    case atStart => exact ⟨(0), (0), (([] : List (List Int))), (.slice none 0 0), (by first | rfl | (simp; done) | (simp [*]; done)), H', ⟨Nat.le_refl _⟩, ⟨by first | exact Kd.S_nil _ _ _ _ _ | exact Kd.N_nil _ _ _ _ _ | exact Kd.V_nil _ _ _ _ _ | exact Kd.Q_nil _ _ _ _ _ | exact Kd.R_nil _ _ _ _ _⟩, ⟨by (with_reducible repeat (first | refine blk_drewN ?_ _ | refine blk_drew ?_ | refine blk_alloc ?_ _)); refine blk_far ?_ NB239_242.out _; (with_reducible repeat (first | refine blk_drewN ?_ _ | refine blk_drew ?_ | refine blk_alloc ?_ _)); refine blk_far ?_ NB239_242.out _; (with_reducible repeat (first | refine blk_drewN ?_ _ | refine blk_drew ?_ | refine blk_alloc ?_ _)); exact BK239.out⟩, ⟨by (with_reducible repeat (first | refine blk_drewN ?_ _ | refine blk_drew ?_ | refine blk_alloc ?_ _)); refine blk_far ?_ NB240_242.out _; (with_reducible repeat (first | refine blk_drewN ?_ _ | refine blk_drew ?_ | refine blk_alloc ?_ _)); refine blk_far ?_ NB240_242.out _; (with_reducible repeat (first | refine blk_drewN ?_ _ | refine blk_drew ?_ | refine blk_alloc ?_ _)); exact BK240.out⟩, ⟨by (with_reducible repeat (first | refine blk_drewN ?_ _ | refine blk_drew ?_ | refine blk_alloc ?_ _)); refine blk_put (cs := #[.int .u8 a1, .slice none 0 0]) ?_ 1 _ rfl; (with_reducible repeat (first | refine blk_drewN ?_ _ | refine blk_drew ?_ | refine blk_alloc ?_ _)); refine blk_put (cs := #[.int .u8 0, .slice none 0 0]) ?_ 0 _ rfl; (with_reducible repeat (first | refine blk_drewN ?_ _ | refine blk_drew ?_ | refine blk_alloc ?_ _)); exact BK242.out⟩, ⟨by repeat (first | (with_reducible first | exact HB.out | apply below_alloc | apply pw_below_drewN | apply below_drew1 | refine below_set ?_ GE239.out | refine below_set ?_ GE240.out | refine below_set ?_ GE242.out) | exact HB.out)⟩⟩
    case round =>
     clear H'
     try clear c1
     try clear c2
     try clear p2
     try clear c7
     try clear c8
     try clear c8b0
     try clear c9
     try clear c12
     try clear c15
     try clear c16
     try clear c18
     try clear c19
     try clear c22
     try clear c23
     try clear c25
     try clear c26
     try clear hcz10_0
     try clear hcz10_1
     try clear hcz13_0
     try clear hcz13_1
     try clear hcz16_0
     try clear hcz16_1
     try clear hcz20_0
     try clear hcz20_1
     try clear hcz24_0
     try clear hcz24_1
     try clear hcz26_0
     try clear hcz26_1
     try clear hfz10_0
     try clear hfz10_1
     try clear hfz13_0
     try clear hfz13_1
     try clear hfz16_0
     try clear hfz16_1
     try clear hfz20_0
     try clear hfz20_1
     try clear hfz24_0
     try clear hfz24_1
     try clear hfz26_0
     try clear hfz26_1
     try clear p2
     obtain ⟨x28_2, x241000_2, x243001_2, u243001, rfl, HA, HK2, HO_243001, BK239, BK240, BK242, HB⟩ := hrel
     cases gk with
     | zero => exact absurd HA.out (by simp [disk_Set_To.l0])
     | succ k2 =>
      have H := HA.out
      clear HA
      simp only [disk_Set_To.l0] at H
      by_cases c27 : x28_2 < (l0_1.length : Int)
      ·rw [if_pos c27] at H
       have c27b0 : decide (x28_2 < (l0_1.length : Int)) = true := decide_eq_true c27
       clear c27
       by_cases c28 : 0 ≤ x28_2
       ·rw [if_pos c28] at H
        have c28b0 : decide (0 ≤ x28_2) = true := decide_eq_true c28
        clear c28
        by_cases c29 : x28_2 < (l0_1.length : Int)
        ·rw [if_pos c29] at H
         have c29b0 : decide (x28_2 < (l0_1.length : Int)) = true := decide_eq_true c29
         clear c29
         replace H := Option.bind_eq_some_iff.mp H
         obtain ⟨⟨t244, t247⟩, A300, H⟩ := H
         replace H : (if t247 = 0 then (if x243001_2.length < 5864062014805 then (disk_Set_To.l0 k2 a1 l0_1 (l0_1.length : Int) (wrap64 (x28_2 + 1)) a0_0 l0_1 a1 (x243001_2 ++ [t244])) else (none)) else (some (0, ([] : List (List Int)), t247))) = some (r1, r2, r3) := H
         have A30 := Aside0.mk A300
         clear A300
         by_cases c31 : t247 = 0
         ·rw [if_pos c31] at H
          have c31b0 : (t247 == 0) = true := beq_iff_eq.mpr c31
          have c31b1 : (t247 != 0) = false := bne_eq_false_iff_eq.mpr c31
          clear c31
          by_cases c32 : x243001_2.length < 5864062014805
          ·rw [if_pos c32] at H
           have LMc32 := Aside0.mk c32
           clear c32
           obtain ⟨y248, hy248⟩ : ∃ y_ : List (List Int), y_ = (x243001_2 ++ [t244]) := ⟨_, rfl⟩
           replace H : (disk_Set_To.l0 k2 a1 l0_1 (l0_1.length : Int) (wrap64 (x28_2 + 1)) a0_0 l0_1 a1 y248) = some (r1, r2, r3) := by first | (rw [hy248]; with_reducible exact H) | (have H2_ := (Option.bind_some _ _).symm.trans H; rw [hy248]; with_reducible exact H2_) | (have H2_ := (Option.bind_some _ _).symm.trans H; with_reducible exact H2_) | with_reducible exact H | (rw [hy248]; exact H) | exact H
           have Ny248 := Aside0.mk hy248
           clear hy248
           have H' := Aside0.mk H
           clear H
           have p243 : 0 ≤ (x28_2 : Int) := of_decide_eq_true (by first | (with_reducible assumption) | assumption)
           have q243 : x28_2 < (l0_1.length : Int) := of_decide_eq_true (by first | (with_reducible assumption) | assumption)
           obtain ⟨ad243, A243_0, c243_0, e243, hx243_0, hl243_0, hi243_0⟩ := at_L1 HR0_1.out x28_2 p243 q243
           cases e243
           replace hx243_0 := (HB.out.cell (World.block_lt_of_cell? w _ hx243_0)).trans hx243_0
           have HR243_0 := Aside0.mk hi243_0
           have HC243_0 := Aside0.mk hl243_0
           clear hi243_0 hl243_0
           replace p243 := eq_true p243
           replace q243 := eq_true q243
           have hnb33 := NB239_240.out
           have hnc33 := NB240_239.out
           have hnb34 := NB239_242.out
           have hnc34 := NB242_239.out
           have hcz35_0 : wr.cell? ⟨gb239, 0, none⟩ = some (.int .u8 a0_0) := (blk_cell BK239.out 0).trans rfl
           have hcz35_1 : wr.cell? ⟨gb239, 1, none⟩ = some (.slice (some ad243) l0_1.length c0_1) := (blk_cell BK239.out 1).trans rfl
           have hfz35_0 := blk_frozen BK239.out 0
           have hfz35_1 := blk_frozen BK239.out 1
           go_wp2_with (first | ((with_reducible refine gate_callee (f := 49) rfl ?_); refine goesL_ (some 37) rfl rfl Try.func49 (by kernel_rfl) rfl #[.slice A243_0 (rd_L1 l0_1 x28_2).length c243_0, .int .u8 a0_0, .int .u8 a1] rfl (by (try simp only [List.map_toArray, List.map_cons, List.map_nil]); first | done | rfl | (simp only [List.length_drop, List.length_take]; rfl)) ?_; (with_reducible refine (disk_other.calls k2 _ _ (rd_L1 l0_1 x28_2) a0_0 a1 t244 t247 _ ?side1 ?side2 A30.out).mono ?_); (case side1 => repeat (first | exact (Kd.C_below HR243_0.out HB.out) | (with_reducible refine Kd.C_alloc ?_ _) | (with_reducible refine Kd.C_drewN ?_ _) | (with_reducible refine Kd.C_drew ?_))); (case side2 => exact HC243_0.out); rintro e w36 ⟨v245, rfl, ho0, hb⟩; refine ⟨_, rfl, ?_⟩; have n0_ := Aside0.mk (Kd.N_below (by (with_reducible repeat (first | apply Kd.N_alloc | apply Kd.N_drewN | apply Kd.N_drew)); exact HO_243001.out) hb); have n1_ := Aside0.mk (Kd.V_lower (Kd.V_mono (ok' := fun k_ => (w.heap.size ≤ k_) ∧ some k_ ≠ (u243001 : Value).ownBlock ∧ k_ ≠ gb239 ∧ k_ ≠ gb240 ∧ k_ ≠ gb242) ho0 (fun k_ hk_ => ⟨(Nat.le_trans (below_size (by repeat (first | (with_reducible first | exact HB.out | apply below_alloc | apply pw_below_drewN | apply below_drew1 | refine below_set ?_ GE239.out | refine below_set ?_ GE240.out | refine below_set ?_ GE242.out) | exact HB.out))) hk_), (Kd.fresh' (Kd.N_lt (by (with_reducible repeat (first | apply Kd.N_alloc | apply Kd.N_drewN | apply Kd.N_drew)); exact HO_243001.out)) k_ hk_), (Kd.freshB (g := gb239) (o := .cells #[.int .u8 a0_0, .slice (some ad243) l0_1.length c0_1] 30 (0, 0)) (by (with_reducible repeat (first | refine blk_drewN ?_ _ | refine blk_drew ?_ | refine blk_alloc ?_ _)); exact BK239.out) k_ hk_), (Kd.freshB (g := gb240) (o := .cells #[.int .u8 x241000_2, .slice none 0 0] 30 (0, 0)) (by (with_reducible repeat (first | refine blk_drewN ?_ _ | refine blk_drew ?_ | refine blk_alloc ?_ _)); exact BK240.out) k_ hk_), (Kd.freshB (g := gb242) (o := .cells #[.int .u8 a1, u243001] 30 (0, 0)) (by (with_reducible repeat (first | refine blk_drewN ?_ _ | refine blk_drew ?_ | refine blk_alloc ?_ _)); exact BK242.out) k_ hk_)⟩)) (below_size (by repeat (first | (with_reducible first | exact HB.out | apply below_alloc | apply pw_below_drewN | apply below_drew1 | refine below_set ?_ GE239.out | refine below_set ?_ GE240.out | refine below_set ?_ GE242.out) | exact HB.out)))); have n2_ := Aside0.mk (blk_below (g := gb239) (o := .cells #[.int .u8 a0_0, .slice (some ad243) l0_1.length c0_1] 30 (0, 0)) (by (with_reducible repeat (first | refine blk_drewN ?_ _ | refine blk_drew ?_ | refine blk_alloc ?_ _)); exact BK239.out) hb); have n3_ := Aside0.mk (blk_below (g := gb240) (o := .cells #[.int .u8 x241000_2, .slice none 0 0] 30 (0, 0)) (by (with_reducible repeat (first | refine blk_drewN ?_ _ | refine blk_drew ?_ | refine blk_alloc ?_ _)); exact BK240.out) hb); have n4_ := Aside0.mk (blk_below (g := gb242) (o := .cells #[.int .u8 a1, u243001] 30 (0, 0)) (by (with_reducible repeat (first | refine blk_drewN ?_ _ | refine blk_drew ?_ | refine blk_alloc ?_ _)); exact BK242.out) hb); have n5_ := Aside0.mk (below_step (by repeat (first | (with_reducible first | exact HB.out | apply below_alloc | apply pw_below_drewN | apply below_drew1 | refine below_set ?_ GE239.out | refine below_set ?_ GE240.out | refine below_set ?_ GE242.out) | exact HB.out)) hb); clear HO_243001; clear BK239; clear BK240; clear BK242; clear HB; have HO_243001 := n0_; have HO246 := n1_; have BK239 := n2_; have BK240 := n3_; have BK242 := n4_; have HB := n5_; clear n0_ n1_ n2_ n3_ n4_ n5_; (try clear hb); (try clear hb2); (try clear hk); (try clear hi); (try clear ho0); have hnb37 := NB242_240.out; have hnc37 := NB240_242.out; have hcz38_0 : w36.cell? ⟨gb242, 0, none⟩ = some (.int .u8 a1) := (blk_cell BK242.out 0).trans rfl; have hcz38_1 : w36.cell? ⟨gb242, 1, none⟩ = some (u243001) := (blk_cell BK242.out 1).trans rfl; have hfz38_0 := blk_frozen BK242.out 0; have hfz38_1 := blk_frozen BK242.out 1; obtain ⟨Ao40, co40, eo40⟩ := Kd.V_slice HO246.out; subst eo40) | ((with_reducible refine gate_builtin (b := .append) (xs := #[.tmp 45, .tmp 47]) rfl ?_); at_builtin; refine Kd.N_append (Kd.slice 5 (Kd.int .u8)) (w0 := w) w.heap.size rfl (.tmp 45) (.tmp 47) 28 22 (.slice none 0 0) 24 rfl Try.underlying28 info22 rfl (by decide) (by omega) u243001 x243001_2 t244 [.slice Ao40 t244.length co40] (fun k_ => (w.heap.size ≤ k_) ∧ k_ ≠ gb239 ∧ k_ ≠ gb240 ∧ k_ ≠ gb242) (fun k_ => ((fun k_ => (w.heap.size ≤ k_) ∧ k_ ≠ gb239 ∧ k_ ≠ gb240 ∧ k_ ≠ gb242)) k_ ∧ some k_ ≠ (u243001 : Value).ownBlock) rfl rfl ?aP (fun _ hk => hk) ?aF ?aO ?aB ?aS ?aL ?_; (case aP => exact (Kd.FK_slice_mk (Kd.V_reads' (Kd.V_mono (ok' := (fun k_ => ((fun k_ => (w.heap.size ≤ k_) ∧ k_ ≠ gb239 ∧ k_ ≠ gb240 ∧ k_ ≠ gb242)) k_ ∧ some k_ ≠ (u243001 : Value).ownBlock)) (HO246.out) (fun k_ hk => ⟨⟨hk.1, ⟨hk.2.2.1, ⟨hk.2.2.2.1, hk.2.2.2.2⟩⟩⟩, hk.2.1⟩))).2.1 (Kd.V_F (Kd.V_mono (ok' := (fun k_ => ((fun k_ => (w.heap.size ≤ k_) ∧ k_ ≠ gb239 ∧ k_ ≠ gb240 ∧ k_ ≠ gb242)) k_ ∧ some k_ ≠ (u243001 : Value).ownBlock)) (HO246.out) (fun k_ hk => ⟨⟨hk.1, ⟨hk.2.2.1, ⟨hk.2.2.2.1, hk.2.2.2.2⟩⟩⟩, hk.2.1⟩))))); (case aB => exact (by repeat (first | (with_reducible first | exact HB.out | apply below_alloc | apply pw_below_drewN | apply below_drew1 | refine below_set ?_ GE239.out | refine below_set ?_ GE240.out | refine below_set ?_ GE242.out) | exact HB.out))); (case aF => exact (fun k_ hk => ⟨(Nat.le_trans (below_size (by repeat (first | (with_reducible first | exact HB.out | apply below_alloc | apply pw_below_drewN | apply below_drew1 | refine below_set ?_ GE239.out | refine below_set ?_ GE240.out | refine below_set ?_ GE242.out) | exact HB.out))) hk), Kd.freshB (g := gb239) (o := .cells #[.int .u8 a0_0, .slice (some ad243) l0_1.length c0_1] 30 (0, 0)) (by (with_reducible repeat (first | refine blk_drewN ?_ _ | refine blk_drew ?_ | refine blk_alloc ?_ _)); exact BK239.out) k_ hk, Kd.freshB (g := gb240) (o := .cells #[.int .u8 x241000_2, .slice none 0 0] 30 (0, 0)) (by (with_reducible repeat (first | refine blk_drewN ?_ _ | refine blk_drew ?_ | refine blk_alloc ?_ _)); exact BK240.out) k_ hk, Kd.freshB (g := gb242) (o := .cells #[.int .u8 a1, u243001] 30 (0, 0)) (by (with_reducible repeat (first | refine blk_drewN ?_ _ | refine blk_drew ?_ | refine blk_alloc ?_ _)); exact BK242.out) k_ hk⟩)); (case aO => exact (by (with_reducible repeat (first | apply Kd.N_alloc | apply Kd.N_drewN | apply Kd.N_drew)); exact HO_243001.out)); (case aS => exact (below_size (by repeat (first | (with_reducible first | exact HB.out | apply below_alloc | apply pw_below_drewN | apply below_drew1 | refine below_set ?_ GE239.out | refine below_set ?_ GE240.out | refine below_set ?_ GE242.out) | exact HB.out)))); (case aL => have := LMc32.out; omega); intro v249 w39 ho hb hg hat; rw [← Ny248.out] at ho; have n0_ := Aside0.mk (blk_grown (g := gb239) (o := .cells #[.int .u8 a0_0, .slice (some ad243) l0_1.length c0_1] 30 (0, 0)) (by (with_reducible repeat (first | refine blk_drewN ?_ _ | refine blk_drew ?_ | refine blk_alloc ?_ _)); exact BK239.out) hg (Kd.N_ne HO_243001.out BK239.out (by decide))); have n1_ := Aside0.mk (blk_grown (g := gb240) (o := .cells #[.int .u8 x241000_2, .slice none 0 0] 30 (0, 0)) (by (with_reducible repeat (first | refine blk_drewN ?_ _ | refine blk_drew ?_ | refine blk_alloc ?_ _)); exact BK240.out) hg (Kd.N_ne HO_243001.out BK240.out (by decide))); have n2_ := Aside0.mk (blk_grown (g := gb242) (o := .cells #[.int .u8 a1, u243001] 30 (0, 0)) (by (with_reducible repeat (first | refine blk_drewN ?_ _ | refine blk_drew ?_ | refine blk_alloc ?_ _)); exact BK242.out) hg (Kd.N_ne HO_243001.out BK242.out (by decide))); have n3_ := Aside0.mk (Kd.V_afterv (ok := (fun k_ => (w.heap.size ≤ k_) ∧ k_ ≠ gb239 ∧ k_ ≠ gb240 ∧ k_ ≠ gb242)) (by (with_reducible repeat (first | apply Kd.V_alloc | apply Kd.V_drewN | apply Kd.V_drew)); exact Kd.V_mono HO246.out (fun _ hk => ⟨⟨hk.1, ⟨hk.2.2.1, ⟨hk.2.2.2.1, hk.2.2.2.2⟩⟩⟩, hk.2.1⟩)) hg hat); have n4_ := Aside0.mk (hb); have n5_ := Aside0.mk (ho); clear BK239; clear BK240; clear BK242; clear HO246; clear HB; clear HO_243001; have BK239 := n0_; have BK240 := n1_; have BK242 := n2_; have HO246 := n3_; have HB := n4_; have HO250 := n5_; clear n0_ n1_ n2_ n3_ n4_ n5_; clear ho hb hg hat; obtain ⟨Ao41, co41, eo41⟩ := Kd.N_slice HO250.out; subst eo41; have hcz42_0 : w39.cell? ⟨gb242, 0, none⟩ = some (.int .u8 a1) := (blk_cell BK242.out 0).trans rfl; have hcz42_1 : w39.cell? ⟨gb242, 1, none⟩ = some (u243001) := (blk_cell BK242.out 1).trans rfl; have hfz42_0 := blk_frozen BK242.out 0; have hfz42_1 := blk_frozen BK242.out 1))
           go_roundg k2
           case measure => have := HJ2.out; have := HK2.out; omega
           case rel => exact ⟨(wrap64 (x28_2 + 1)), (x241000_2), (y248), (.slice Ao41 y248.length co41), (by first | rfl | (simp; done) | (simp [*]; done)), H', ⟨by have := HJ2.out; have := HK2.out; omega⟩, ⟨by (with_reducible repeat (first | apply Kd.N_alloc | apply Kd.N_drewN | apply Kd.N_drew)); exact Kd.N_mono (Kd.N_far (p := ⟨gb242, 1, none⟩) (Kd.N_mono HO250.out (fun k_ hk => (⟨hk, hk.2.2.2⟩ : _ ∧ k_ ≠ gb242))) (fun _ hk => hk.2) (.slice Ao41 y248.length co41)) (fun _ hk => ⟨hk.1.1, ⟨hk.1.2.1, ⟨hk.1.2.2.1, hk.1.2.2.2⟩⟩⟩)⟩, ⟨by (with_reducible repeat (first | refine blk_drewN ?_ _ | refine blk_drew ?_ | refine blk_alloc ?_ _)); refine blk_far ?_ NB239_242.out _; (with_reducible repeat (first | refine blk_drewN ?_ _ | refine blk_drew ?_ | refine blk_alloc ?_ _)); exact BK239.out⟩, ⟨by (with_reducible repeat (first | refine blk_drewN ?_ _ | refine blk_drew ?_ | refine blk_alloc ?_ _)); refine blk_far ?_ NB240_242.out _; (with_reducible repeat (first | refine blk_drewN ?_ _ | refine blk_drew ?_ | refine blk_alloc ?_ _)); exact BK240.out⟩, ⟨by (with_reducible repeat (first | refine blk_drewN ?_ _ | refine blk_drew ?_ | refine blk_alloc ?_ _)); refine blk_put (cs := #[.int .u8 a1, u243001]) ?_ 1 _ rfl; (with_reducible repeat (first | refine blk_drewN ?_ _ | refine blk_drew ?_ | refine blk_alloc ?_ _)); exact BK242.out⟩, ⟨by repeat (first | (with_reducible first | exact HB.out | apply below_alloc | apply pw_below_drewN | apply below_drew1 | refine below_set ?_ GE239.out | refine below_set ?_ GE240.out | refine below_set ?_ GE242.out) | exact HB.out)⟩⟩
          ·rw [if_neg c32] at H
           exact absurd H (by simp)
         ·rw [if_neg c31] at H
          have c31b0 : (t247 == 0) = false := beq_eq_false_iff_ne.mpr c31
          have c31b1 : (t247 != 0) = true := bne_iff_ne.mpr c31
          simp only [Option.some.injEq, Prod.mk.injEq] at H
          obtain ⟨rfl, rfl, rfl⟩ := H
          have p243 : 0 ≤ (x28_2 : Int) := of_decide_eq_true (by first | (with_reducible assumption) | assumption)
          have q243 : x28_2 < (l0_1.length : Int) := of_decide_eq_true (by first | (with_reducible assumption) | assumption)
          obtain ⟨ad243, A243_0, c243_0, e243, hx243_0, hl243_0, hi243_0⟩ := at_L1 HR0_1.out x28_2 p243 q243
          cases e243
          replace hx243_0 := (HB.out.cell (World.block_lt_of_cell? w _ hx243_0)).trans hx243_0
          have HR243_0 := Aside0.mk hi243_0
          have HC243_0 := Aside0.mk hl243_0
          clear hi243_0 hl243_0
          replace p243 := eq_true p243
          replace q243 := eq_true q243
          have hnb43 := NB239_240.out
          have hnc43 := NB240_239.out
          have hnb44 := NB239_242.out
          have hnc44 := NB242_239.out
          have hcz45_0 : wr.cell? ⟨gb239, 0, none⟩ = some (.int .u8 a0_0) := (blk_cell BK239.out 0).trans rfl
          have hcz45_1 : wr.cell? ⟨gb239, 1, none⟩ = some (.slice (some ad243) l0_1.length c0_1) := (blk_cell BK239.out 1).trans rfl
          have hfz45_0 := blk_frozen BK239.out 0
          have hfz45_1 := blk_frozen BK239.out 1
          go_wp2_with (first | ((with_reducible refine gate_callee (f := 49) rfl ?_); refine goesL_ (some 37) rfl rfl Try.func49 (by kernel_rfl) rfl #[.slice A243_0 (rd_L1 l0_1 x28_2).length c243_0, .int .u8 a0_0, .int .u8 a1] rfl (by (try simp only [List.map_toArray, List.map_cons, List.map_nil]); first | done | rfl | (simp only [List.length_drop, List.length_take]; rfl)) ?_; (with_reducible refine (disk_other.calls k2 _ _ (rd_L1 l0_1 x28_2) a0_0 a1 t244 t247 _ ?side1 ?side2 A30.out).mono ?_); (case side1 => repeat (first | exact (Kd.C_below HR243_0.out HB.out) | (with_reducible refine Kd.C_alloc ?_ _) | (with_reducible refine Kd.C_drewN ?_ _) | (with_reducible refine Kd.C_drew ?_))); (case side2 => exact HC243_0.out); rintro e w46 ⟨v245, rfl, ho0, hb⟩; refine ⟨_, rfl, ?_⟩; have n0_ := Aside0.mk (Kd.N_below (by (with_reducible repeat (first | apply Kd.N_alloc | apply Kd.N_drewN | apply Kd.N_drew)); exact HO_243001.out) hb); have n1_ := Aside0.mk (Kd.V_lower (Kd.V_mono (ok' := fun k_ => (w.heap.size ≤ k_) ∧ some k_ ≠ (u243001 : Value).ownBlock ∧ k_ ≠ gb239 ∧ k_ ≠ gb240 ∧ k_ ≠ gb242) ho0 (fun k_ hk_ => ⟨(Nat.le_trans (below_size (by repeat (first | (with_reducible first | exact HB.out | apply below_alloc | apply pw_below_drewN | apply below_drew1 | refine below_set ?_ GE239.out | refine below_set ?_ GE240.out | refine below_set ?_ GE242.out) | exact HB.out))) hk_), (Kd.fresh' (Kd.N_lt (by (with_reducible repeat (first | apply Kd.N_alloc | apply Kd.N_drewN | apply Kd.N_drew)); exact HO_243001.out)) k_ hk_), (Kd.freshB (g := gb239) (o := .cells #[.int .u8 a0_0, .slice (some ad243) l0_1.length c0_1] 30 (0, 0)) (by (with_reducible repeat (first | refine blk_drewN ?_ _ | refine blk_drew ?_ | refine blk_alloc ?_ _)); exact BK239.out) k_ hk_), (Kd.freshB (g := gb240) (o := .cells #[.int .u8 x241000_2, .slice none 0 0] 30 (0, 0)) (by (with_reducible repeat (first | refine blk_drewN ?_ _ | refine blk_drew ?_ | refine blk_alloc ?_ _)); exact BK240.out) k_ hk_), (Kd.freshB (g := gb242) (o := .cells #[.int .u8 a1, u243001] 30 (0, 0)) (by (with_reducible repeat (first | refine blk_drewN ?_ _ | refine blk_drew ?_ | refine blk_alloc ?_ _)); exact BK242.out) k_ hk_)⟩)) (below_size (by repeat (first | (with_reducible first | exact HB.out | apply below_alloc | apply pw_below_drewN | apply below_drew1 | refine below_set ?_ GE239.out | refine below_set ?_ GE240.out | refine below_set ?_ GE242.out) | exact HB.out)))); have n2_ := Aside0.mk (blk_below (g := gb239) (o := .cells #[.int .u8 a0_0, .slice (some ad243) l0_1.length c0_1] 30 (0, 0)) (by (with_reducible repeat (first | refine blk_drewN ?_ _ | refine blk_drew ?_ | refine blk_alloc ?_ _)); exact BK239.out) hb); have n3_ := Aside0.mk (blk_below (g := gb240) (o := .cells #[.int .u8 x241000_2, .slice none 0 0] 30 (0, 0)) (by (with_reducible repeat (first | refine blk_drewN ?_ _ | refine blk_drew ?_ | refine blk_alloc ?_ _)); exact BK240.out) hb); have n4_ := Aside0.mk (blk_below (g := gb242) (o := .cells #[.int .u8 a1, u243001] 30 (0, 0)) (by (with_reducible repeat (first | refine blk_drewN ?_ _ | refine blk_drew ?_ | refine blk_alloc ?_ _)); exact BK242.out) hb); have n5_ := Aside0.mk (below_step (by repeat (first | (with_reducible first | exact HB.out | apply below_alloc | apply pw_below_drewN | apply below_drew1 | refine below_set ?_ GE239.out | refine below_set ?_ GE240.out | refine below_set ?_ GE242.out) | exact HB.out)) hb); clear HO_243001; clear BK239; clear BK240; clear BK242; clear HB; have HO_243001 := n0_; have HO246 := n1_; have BK239 := n2_; have BK240 := n3_; have BK242 := n4_; have HB := n5_; clear n0_ n1_ n2_ n3_ n4_ n5_; (try clear hb); (try clear hb2); (try clear hk); (try clear hi); (try clear ho0); have hnb47 := NB240_242.out; have hnc47 := NB242_240.out; have hcz48_0 : w46.cell? ⟨gb240, 0, none⟩ = some (.int .u8 x241000_2) := (blk_cell BK240.out 0).trans rfl; have hcz48_1 : w46.cell? ⟨gb240, 1, none⟩ = some (.slice none 0 0) := (blk_cell BK240.out 1).trans rfl; have hfz48_0 := blk_frozen BK240.out 0; have hfz48_1 := blk_frozen BK240.out 1))
          refine bodyPost_ret (results_ct rfl _ _ gb240 30 #[.int .u8 0, .slice none 0 0] (0, 0) _ rfl (by (with_reducible repeat (first | refine blk_drewN ?_ _ | refine blk_drew ?_ | refine blk_alloc ?_ _)); refine blk_put (cs := #[.int .u8 0, .slice none 0 0]) ?_ 1 _ rfl; (with_reducible repeat (first | refine blk_drewN ?_ _ | refine blk_drew ?_ | refine blk_alloc ?_ _)); refine blk_put (cs := #[.int .u8 x241000_2, .slice none 0 0]) ?_ 0 _ rfl; (with_reducible repeat (first | refine blk_drewN ?_ _ | refine blk_drew ?_ | refine blk_alloc ?_ _)); exact BK240.out) Try.underlying30 rfl (by kernel_rfl)) rfl ?_
          exact ⟨_, by first | rfl | (simp [errW_none, errW_some] <;> rfl) | (simp [*, errW_none, errW_some] <;> rfl), by first | exact Kd.S_nil _ _ _ _ _ | exact Kd.N_nil _ _ _ _ _ | exact Kd.V_nil _ _ _ _ _ | exact Kd.Q_nil _ _ _ _ _ | exact Kd.R_nil _ _ _ _ _, by repeat (first | (with_reducible first | exact HB.out | apply below_alloc | apply pw_below_drewN | apply below_drew1 | refine below_set ?_ GE239.out | refine below_set ?_ GE240.out | refine below_set ?_ GE242.out) | exact HB.out)⟩
        ·rw [if_neg c29] at H
         exact absurd H (by simp)
       ·rw [if_neg c28] at H
        exact absurd H (by simp)
      ·rw [if_neg c27] at H
       have c27b0 : decide (x28_2 < (l0_1.length : Int)) = false := decide_eq_false c27
       clear c27
       simp only [Option.some.injEq, Prod.mk.injEq] at H
       obtain ⟨rfl, rfl, rfl⟩ := H
       have hnb49 := NB242_239.out
       have hnc49 := NB239_242.out
       have hnb50 := NB242_240.out
       have hnc50 := NB240_242.out
       have hcz51_0 : wr.cell? ⟨gb242, 0, none⟩ = some (.int .u8 a1) := (blk_cell BK242.out 0).trans rfl
       have hcz51_1 : wr.cell? ⟨gb242, 1, none⟩ = some (u243001) := (blk_cell BK242.out 1).trans rfl
       have hfz51_0 := blk_frozen BK242.out 0
       have hfz51_1 := blk_frozen BK242.out 1
       have hnb52 := NB240_239.out
       have hnc52 := NB239_240.out
       have hcz53_0 : wr.cell? ⟨gb240, 0, none⟩ = some (.int .u8 x241000_2) := (blk_cell BK240.out 0).trans rfl
       have hcz53_1 : wr.cell? ⟨gb240, 1, none⟩ = some (.slice none 0 0) := (blk_cell BK240.out 1).trans rfl
       have hfz53_0 := blk_frozen BK240.out 0
       have hfz53_1 := blk_frozen BK240.out 1
       obtain ⟨Ao54, co54, eo54⟩ := Kd.N_slice HO_243001.out
       subst eo54
       go_wp2
       refine bodyPost_ret (results_ct rfl _ _ gb240 30 #[.int .u8 a1, .slice Ao54 x243001_2.length co54] (0, 0) _ rfl (by (with_reducible repeat (first | refine blk_drewN ?_ _ | refine blk_drew ?_ | refine blk_alloc ?_ _)); refine blk_put (cs := #[.int .u8 a1, .slice none 0 0]) ?_ 1 _ rfl; (with_reducible repeat (first | refine blk_drewN ?_ _ | refine blk_drew ?_ | refine blk_alloc ?_ _)); refine blk_put (cs := #[.int .u8 x241000_2, .slice none 0 0]) ?_ 0 _ rfl; (with_reducible repeat (first | refine blk_drewN ?_ _ | refine blk_drew ?_ | refine blk_alloc ?_ _)); exact BK240.out) Try.underlying30 rfl (by kernel_rfl)) rfl ?_
       exact ⟨_, by first | rfl | (simp [errW_none, errW_some] <;> rfl) | (simp [*, errW_none, errW_some] <;> rfl), by (with_reducible repeat (first | apply Kd.N_alloc | apply Kd.N_drewN | apply Kd.N_drew)); exact Kd.N_mono (Kd.N_far (p := ⟨gb240, 1, none⟩) (Kd.N_far (p := ⟨gb240, 0, none⟩) (Kd.N_mono HO_243001.out (fun k_ hk => (⟨hk, hk.2.2.1⟩ : _ ∧ k_ ≠ gb240))) (fun _ hk => hk.2) (.int .u8 a1)) (fun _ hk => hk.2) (.slice Ao54 x243001_2.length co54)) (fun _ hk => hk.1.1), by repeat (first | (with_reducible first | exact HB.out | apply below_alloc | apply pw_below_drewN | apply below_drew1 | refine below_set ?_ GE239.out | refine below_set ?_ GE240.out | refine below_set ?_ GE242.out) | exact HB.out)⟩
theorem disk_Set_To.calls (k : Nat) (a0_0 : Int) (A0_1 : Option Addr) (c0_1 : Nat) (l0_1 : List (List Int)) (a1 : Int) (r1 : Int) (r2 : List (List Int)) (r3 : Int) (w : World) (hr0_1 : Kd.C (Kd.slice 5 (Kd.int .u8)) w A0_1 l0_1.length l0_1) (hc0_1 : l0_1.length ≤ c0_1) (h : disk_Set_To.f k a0_0 l0_1 a1 = some (r1, r2, r3)) :
  Calls Try.prog 26 #[.agg #[.int .u8 a0_0, .slice A0_1 l0_1.length c0_1], .int .u8 a1] w fun e w' => ∃ v1_ : Value, e = .returned (.tuple #[.agg #[.int .u8 r1, v1_], .int .i64 r3]) ∧ Kd.V (Kd.slice 5 (Kd.int .u8)) 22 w' w.heap.size (fun k_ => (w.heap.size ≤ k_)) v1_ r2 ∧ Below w.heap.size w w' := by
 refine (disk_Set_To.callsR k a0_0 A0_1 c0_1 l0_1 a1 r1 r2 r3 w hr0_1 hc0_1 h).mono ?_
 rintro e w' ⟨v0_, rfl, ho, hb⟩
 exact ⟨v0_, rfl, Kd.N_V ho, hb⟩

-- NOT PRINTED: function 57 (block_Block_57)

/-! ### block_Block_50: function 50, by hand -/
def block_Block_50.f (l0 : List (List (S73))) : Option (List (S73)) := if (l0.map List.length).sum ≤ 4398046511104 ∧ l0.length ≤ 4398046511104 then some l0.flatten else none
theorem block_Block_50.getD_take {α : Type} (l : List (List α)) (i : Nat) (h : i < l.length) : l.take (i + 1) = l.take i ++ [l.getD i []] := by
 rw [List.take_succ_eq_append_getElem h, List.getD_eq_getElem?_getD, List.getElem?_eq_getElem h]; rfl
theorem block_Block_50.sum_take {α : Type} (l : List (List α)) (i : Nat) (h : i < l.length) : ((l.take (i + 1)).map List.length).sum = ((l.take i).map List.length).sum + (l.getD i []).length := by
 rw [block_Block_50.getD_take l i h]; simp
theorem block_Block_50.sum_le {α : Type} (l : List (List α)) (i : Nat) : ((l.take i).map List.length).sum ≤ (l.map List.length).sum := by
 have h : (l.map List.length).sum = ((l.take i).map List.length).sum + ((l.drop i).map List.length).sum := by rw [← List.sum_append, ← List.map_append, List.take_append_drop]
 omega
theorem block_Block_50.flat_take {α : Type} (l : List (List α)) (i : Nat) (h : i < l.length) : (l.take (i + 1)).flatten = (l.take i).flatten ++ l.getD i [] := by
 rw [block_Block_50.getD_take l i h]; simp
theorem block_Block_50.flat_len {α : Type} (l : List (List α)) : l.flatten.length = (l.map List.length).sum := by simp
set_option maxHeartbeats 4000000 in
theorem block_Block_50.grow (n : Int) (w : World) (h0 : 0 ≤ n) (hl : n ≤ 4398046511104) :
  Calls Try.prog 57 #[.slice none 0 0, .int .i64 n] w fun e w' => ∃ v, e = .returned v ∧ Kd.N k73 73 w' w.heap.size (fun k => w.heap.size ≤ k) v [] ∧ Below w.heap.size w w' := by
 by_cases hn : n = 0
 ·subst hn
  go_enter Try.func57, Try.ntmps57
  go_wp2
  go_ret
  exact ⟨_, rfl, Kd.N_nil _ _ _ _ _, Below.refl _ _⟩
 ·have t1 : decide (n < 0) = false := decide_eq_false (by omega)
  have t2 : decide (0 < n) = true := decide_eq_true (by omega)
  have HN := Aside0.mk (show 0 < n by omega)
  clear hn
  go_enter Try.func57, Try.ntmps57
  go_wp2_with ((with_reducible refine gate_dst (N := 22) rfl ?_); (try (refine gate_guard (by rfl) ?_; dsimp only)); refine Kd.N_append_zeros k73 (w0 := w) w.heap.size rfl (.tmp 20) (.tmp 21) 45 3 73 (.agg #[(.int .u8 0), (.slice none 0 0)]) 32 rfl Try.underlying45 Try.underlying3 info73 rfl (by decide) (by omega) (.slice none 0 0) [] (⟨0, []⟩ : S73) n (fun k => w.heap.size ≤ k) rfl rfl ?aZ ?aF ?aO h0 ?aB ?aS ?aL ?_; (case aZ => exact k73_mkF _ _ (⟨0, []⟩ : S73) (Nat.le_refl _) (Kd.F_nil _ _ _)); (case aF => exact fun k hk => hk); (case aO => exact Kd.N_nil _ _ _ _ _); (case aB => exact Below.refl _ _); (case aS => exact Nat.le_refl _); (case aL => simp; omega); intro v1 w1 ho hb hg hat; have HO := Aside0.mk ho; have HB := Aside0.mk hb; clear ho hb hg hat; obtain ⟨A1, c1, e1⟩ := Kd.N_slice HO.out; subst e1; have q1 : (List.replicate n.toNat (⟨0, []⟩ : S73)).length = n.toNat := List.length_replicate)
  go_ret
  exact ⟨_, rfl, Kd.N_take HO.out (m := 0) (Nat.zero_le _), HB.out⟩
set_option maxHeartbeats 8000000 in
set_option maxRecDepth 100000 in
theorem block_Block_50.calls (P0_ : Nat → Prop) (A0 : Option Addr) (c0 : Nat) (l0 : List (List (S73))) (r : List (S73)) (w : World) (hs0 : Kd.V (Kd.slice 73 k73) 45 w w.heap.size (fun k_ => P0_ k_) (.slice A0 l0.length c0) l0) (h : block_Block_50.f l0 = some r) :
  Calls Try.prog 50 #[.slice A0 l0.length c0] w fun e w' => ∃ v0_ : Value, e = .returned (v0_) ∧ Kd.N k73 73 w' w.heap.size (fun k_ => (P0_ k_ ∨ w.heap.size ≤ k_)) v0_ r ∧ Below w.heap.size w w' := by
 unfold block_Block_50.f at h
 by_cases hs : (l0.map List.length).sum ≤ 4398046511104 ∧ l0.length ≤ 4398046511104
 ·rw [if_pos hs] at h
  obtain rfl := Option.some.inj h
  clear h
  have HS := Aside0.mk hs
  have HV := Aside0.mk (Kd.V_bound hs0)
  have HL := Aside0.mk (fun i => block_Block_50.sum_le l0 i)
  have hl0 : (l0.length : Int) ≤ 4398046511104 := by omega
  clear hs hs0
  go_enter Try.func50, Try.ntmps50
  go_wp2
  go_loopg [3, 11] l0.length (fun kq v3 v11 w' => ∃ i : Nat, v3 = .int .i64 (((l0.take i).map List.length).sum : Nat) ∧ v11 = .int .i64 (i : Int) ∧ Aside0 (i + kq = l0.length) ∧ w = w')
  case atStart => exact ⟨0, rfl, rfl, ⟨by omega⟩, rfl⟩
  case round =>
   obtain ⟨i, rfl, rfl, HI, rfl⟩ := hrel
   by_cases hi : i < l0.length
   ·obtain ⟨ad, cs, eA, hcl, hK, hcc, _⟩ := Kd.F_get (Kd.V_F HV.out) [] (i : Int) (by omega) (by omega)
    obtain ⟨A1, c1, rfl, hl1, hF1⟩ := Kd.FK_slice_open hK
    subst eA
    have hx : w.cell? (ad.add i) = some (.slice A1 (l0.getD i []).length c1) := by
     have := hcc 0 _ rfl
     simpa [Kd.slice] using this
    have hsum := block_Block_50.sum_take l0 i hi
    have hle := HL.out (i + 1)
    have hS := HS.out
    have HI2 := Aside0.mk (show (i + 1) + (gk - 1) = l0.length ∧ gk - 1 < gk by have := HI.out; omega)
    have HSUM := Aside0.mk hsum
    have hb : (((l0.take i).map List.length).sum : Int) + ((l0.getD i []).length : Int) ≤ 4398046511104 := by omega
    have hb0 : 0 ≤ (((l0.take i).map List.length).sum : Int) + ((l0.getD i []).length : Int) := by omega
    have d1 : decide ((i : Int) < (l0.length : Int)) = true := decide_eq_true (by omega)
    have d2 : decide ((((l0.take i).map List.length).sum : Int) + ((l0.getD i []).length : Int) < 0) = false := decide_eq_false (by omega)
    have p1 := eq_true (show (0 : Int) ≤ (i : Int) by omega)
    have p2 := eq_true (show (i : Int) < (l0.length : Int) by omega)
    clear hsum hle hS hcc hK hcl hF1 hl1
    generalize hg1 : ((l0.take i).map List.length).sum = sm at *
    generalize hg2 : (l0.getD i []).length = ln at *
    go_wp2
    go_roundg (gk - 1)
    case measure => have := HI2.out.2; omega
    case rel =>
     exact ⟨i + 1, by rw [HSUM.out]; first | rfl | (push_cast; rfl) | (congr 1; push_cast; omega), by first | rfl | (push_cast; rfl), ⟨HI2.out.1⟩, rfl⟩
   ·have hin : i = l0.length := by have := HI.out; omega
    subst hin
    rw [List.take_length]
    have hS := HS.out
    have d1 : decide ((l0.length : Int) < (l0.length : Int)) = false := decide_eq_false (by omega)
    have n0 : (0 : Int) ≤ ((l0.map List.length).sum : Nat) := by omega
    have HG := Aside0.mk (block_Block_50.grow (((l0.map List.length).sum : Nat) : Int) w n0 (by omega))
    have HFL := Aside0.mk (block_Block_50.flat_len l0)
    clear hi HI hS
    generalize hsm : (l0.map List.length).sum = sm at *
    go_wp2_with (go_at_call 57; refine HG.out.mono ?_; rintro e w1 ⟨v1, rfl, ho, hb⟩; have HO := Aside0.mk ho; have HB := Aside0.mk hb; clear ho hb)
    go_loopg [6, 27] l0.length (fun kq v6 v27 w' => ∃ i : Nat, v27 = .int .i64 (i : Int) ∧ Aside0 (i + kq = l0.length) ∧ Aside0 (Kd.N k73 73 w' w.heap.size (fun k_ => (P0_ k_ ∨ w.heap.size ≤ k_)) v6 (l0.take i).flatten) ∧ Aside0 (Below w.heap.size w w'))
    case atStart => exact ⟨0, rfl, ⟨by omega⟩, ⟨Kd.N_mono HO.out (fun k hk => .inr hk)⟩, HB⟩
    case round =>
     obtain ⟨i, rfl, HI, HO2, HB2⟩ := hrel
     by_cases hi : i < l0.length
     ·obtain ⟨ad, cs, eA, hcl, hK, hcc, _⟩ := Kd.F_get (Kd.V_F HV.out) [] (i : Int) (by omega) (by omega)
      obtain ⟨A1, c1, rfl, hl1, hF1⟩ := Kd.FK_slice_open hK
      subst eA
      have hx : wr.cell? (ad.add i) = some (.slice A1 (l0.getD i []).length c1) := by
       have := hcc 0 _ rfl
       refine pw_cell_below HB2.out ?_
       simpa [Kd.slice] using this
      have hF2 := Aside0.mk (Kd.F_below hF1 HB2.out)
      have hle := HL.out (i + 1)
      have hsum := block_Block_50.sum_take l0 i hi
      have HT := Aside0.mk (block_Block_50.flat_take l0 i hi)
      have hS := HS.out
      have hfl := block_Block_50.flat_len (l0.take i)
      have HLEN := Aside0.mk (show ((l0.take i).flatten.length + (l0.getD i []).length) * 32 ≤ 140737488355328 by rw [hfl]; omega)
      have HI2 := Aside0.mk (show (i + 1) + (gk - 1) = l0.length ∧ gk - 1 < gk by have := HI.out; omega)
      have d1 : decide ((i : Int) < (l0.length : Int)) = true := decide_eq_true (by omega)
      have p1 := eq_true (show (0 : Int) ≤ (i : Int) by omega)
      have p2 := eq_true (show (i : Int) < (l0.length : Int) by omega)
      clear hsum hle hS hcc hK hcl hF1 hl1 hfl
      simp only [Int.toNat_natCast] at hF2
      generalize hg2 : l0.getD i [] = ys at *
      go_wp2_with ((with_reducible refine gate_dst (N := 33) rfl ?_); (try (refine gate_guard (by rfl) ?_; dsimp only)); refine Kd.N_append_rows k73 (w0 := w) w.heap.size rfl (.tmp 31) (.tmp 32) 45 73 (.agg #[(.int .u8 0), (.slice none 0 0)]) 32 rfl Try.underlying45 info73 rfl (by decide) (by omega) u6 (l0.take i).flatten ys A1 ys.length c1 (fun k_ => (P0_ k_ ∨ w.heap.size ≤ k_)) (fun k => P0_ k ∧ k < w.heap.size) rfl rfl HO2.out hF2.out ?aK ?aF HB2.out ?aS HLEN.out ?_; (case aK => exact fun k hk => ⟨.inl hk.1, fun he => by have := Kd.N_base HO2.out k he.symm; have := hk.2; omega⟩); (case aF => exact fun k hk => .inr (Nat.le_trans (below_size HB2.out) hk)); (case aS => exact below_size HB2.out); intro v1 w2 ho hb hg hat; rw [← HT.out] at ho; have HO3 := Aside0.mk ho; have HB3 := Aside0.mk hb; clear ho hb hg hat)
      go_roundg (gk - 1)
      case measure => have := HI2.out.2; omega
      case rel => exact ⟨i + 1, by first | rfl | (push_cast; rfl), ⟨HI2.out.1⟩, HO3, HB3⟩
     ·have hin : i = l0.length := by have := HI.out; omega
      subst hin
      have d1 : decide ((l0.length : Int) < (l0.length : Int)) = false := decide_eq_false (by omega)
      rw [List.take_length] at HO2
      clear hi HI
      go_wp2
      go_ret
      exact ⟨_, rfl, HO2.out, HB2.out⟩
 ·rw [if_neg hs] at h
  cases h

/-! ### block_Disk: function 27, by hand -/
def block_Disk.head (a0 : ByteArray) (a1 : Int) : List Int := (H.spl (List.replicate 55 0) 0 ((bytesOf a0).take 14)).set 20 a1
theorem block_Disk.head_len (a0 : ByteArray) (a1 : Int) : (block_Disk.head a0 a1).length = 55 := by
 have hl := H.spl_length (List.replicate 55 (0 : Int)) ((bytesOf a0).take 14) 0 (by simp; omega)
 unfold block_Disk.head
 rw [List.length_set, hl]; simp
def block_Disk.f (a0 : ByteArray) (a1 : Int) (l2 : List (List (S73))) : Option (List (S73)) :=
 if (l2.map List.length).sum ≤ 1000000000 ∧ l2.length ≤ 1000000000 then some ([⟨1, block_Disk.head a0 a1⟩, ⟨2, [(l2.length : Int) % 256]⟩] ++ l2.flatten) else none
set_option maxHeartbeats 400000 in
set_option maxRecDepth 100000 in
theorem block_Disk.calls (a0 : ByteArray) (a1 : Int) (P2_ : Nat → Prop) (A2 : Option Addr) (c2 : Nat) (l2 : List (List (S73))) (r : List (S73)) (w : World) (hs2 : Kd.V (Kd.slice 73 k73) 45 w w.heap.size (fun k_ => P2_ k_) (.slice A2 l2.length c2) l2) (h : block_Disk.f a0 a1 l2 = some r) :
  Calls Try.prog 27 #[.string a0, .int .u8 a1, .slice A2 l2.length c2] w fun e w' => ∃ v0_ : Value, e = .returned (v0_) ∧ Kd.N k73 73 w' w.heap.size (fun k_ => (P2_ k_ ∨ w.heap.size ≤ k_)) v0_ r ∧ Below w.heap.size w w' := by
 unfold block_Disk.f at h
 by_cases hl : (l2.map List.length).sum ≤ 1000000000 ∧ l2.length ≤ 1000000000
 ·rw [if_pos hl] at h
  obtain rfl := Option.some.inj h
  have HV := Aside0.mk (Kd.V_bound hs2)
  have HL := Aside0.mk hl
  have hl2 : (l2.length : Int) ≤ 1000000000 := by omega
  have HSZ5 := Aside0.mk (show (Try.prog.info? 5).map (·.size) = some 1 by kernel_rfl)
  clear hs2 h hl
  go_enter Try.func27, Try.ntmps27
  go_wp2_with (first
   | ((with_reducible refine gate_dst (N := 8) rfl ?_); refine H.makeRow rfl 22 5 _ _ rfl 55 rfl rfl Try.underlying22 info5 (by decide) ?_; intro w1 hrow hb hsz; have ROW := Aside0.mk hrow; have HB := Aside0.mk hb; have HSZ := Aside0.mk hsz; clear hrow hb hsz)
   | ((with_reducible refine gate_dst (N := 12) rfl ?_); refine H.copyStr rfl (.tmp 10) (.tmp 11) 22 9 rfl 5 Try.underlying22 HSZ5.out w.heap.size 0 14 55 a0 rfl rfl 5 _ ROW.out (by simp) w.heap.size w HB.out (Nat.le_refl _) ?_; intro w2 hrow hb hk hz; have ROW2 := Aside0.mk hrow; have HB2 := Aside0.mk hb; have hsl := H.spl_length (List.replicate 55 0) ((bytesOf a0).take 14) 0 (by simp; omega); rw [show (List.replicate 55 (0 : Int)).length = 55 by simp] at hsl; have d20 := hrow.cell 20 (by rw [hsl]; decide); have e20 := hrow.frozen 20; clear hrow hb hk hz hsl; generalize (H.spl (List.replicate 55 0) 0 ((bytesOf a0).take 14)).getD 20 0 = x20 at *))
  have ROW3 := Aside0.mk (show H.Row 5 (w2.setCell ⟨w.heap.size, 20, none⟩ (.int .u8 a1)) w.heap.size (block_Disk.head a0 a1) from ROW2.out.set_ 20 a1)
  have HB3 := Aside0.mk (HB2.out.setCell (p := ⟨w.heap.size, 20, none⟩) (Nat.le_refl _) (.int .u8 a1))
  have HZ3 := Aside0.mk (show w2.heap.size = (w2.setCell ⟨w.heap.size, 20, none⟩ (.int .u8 a1)).heap.size by simp)
  clear ROW2 HB2 ROW HB HSZ d20 e20
  generalize w2.setCell ⟨w.heap.size, 20, none⟩ (.int .u8 a1) = Wa at *
  rw [HZ3.out]
  have HSa := Aside0.mk (below_size HB3.out)
  -- the row of one byte
  have ROWn := Aside0.mk (H.Row.alloc_new Wa 5 [(l2.length : Int) % 256] #[Value.int .u8 ((l2.length : Int) % 256)] rfl)
  have hb4 := below_alloc (Below.refl Wa.heap.size Wa) (.cells #[Value.int .u8 ((l2.length : Int) % 256)] 5)
  have HZ4 := Aside0.mk (show (Wa.alloc (.cells #[Value.int .u8 ((l2.length : Int) % 256)] 5)).heap.size = Wa.heap.size + 1 by simp)
  have ROW4 := Aside0.mk (ROW3.out.below hb4)
  have HB4 := Aside0.mk (HB3.out.trans (hb4.mono HSa.out))
  clear hb4 ROW3
  generalize Wa.alloc (.cells #[Value.int .u8 ((l2.length : Int) % 256)] 5) = Wb at *
  have hl1 := block_Disk.head_len a0 a1
  have HF1 := Aside0.mk (show Kd.F (Kd.int .u8) Wb (fun k => w.heap.size ≤ k) (some ⟨w.heap.size, 0, none⟩) (block_Disk.head a0 a1).length (block_Disk.head a0 a1) from Kd.F_mono (Kd.V_F (ROW4.out.V 0 (by rw [hl1]; decide))) (fun k hk => Nat.le_of_eq hk.symm))
  have HF2 := Aside0.mk (show Kd.F (Kd.int .u8) Wb (fun k => w.heap.size ≤ k) (some ⟨Wa.heap.size, 0, none⟩) [(l2.length : Int) % 256].length [(l2.length : Int) % 256] from Kd.F_mono (Kd.V_F (ROWn.out.V 0 (by simp))) (fun k hk => by rw [hk]; exact HSa.out))
  have hrep := ((Reps.none (Kd.FK k73 Wb (fun k => w.heap.size ≤ k)) k73.sz).snoc (p := (⟨1, block_Disk.head a0 a1⟩ : S73)) (k73_mkF Wb _ (⟨1, block_Disk.head a0 a1⟩ : S73) (Nat.le_refl _) HF1.out) rfl).snoc (p := (⟨2, [(l2.length : Int) % 256]⟩ : S73)) (k73_mkF Wb _ (⟨2, [(l2.length : Int) % 256]⟩ : S73) (Nat.le_refl _) HF2.out) rfl
  simp only [List.nil_append, List.cons_append] at hrep
  have hN := H.litN k73 w.heap.size 73 hrep (fun _ h => h) (below_size HB4.out) (below_size HB4.out) (by simp)
  rw [HZ4.out, hl1] at hN
  have HN := Aside0.mk hN
  have hb5 := below_alloc (Below.refl Wb.heap.size Wb) (.cells #[Value.int .u8 1, Value.slice (some ⟨w.heap.size, 0, none⟩) 55 55, Value.int .u8 2, Value.slice (some ⟨Wa.heap.size, 0, none⟩) 1 1] 73)
  have HB5 := Aside0.mk (HB4.out.trans (hb5.mono (below_size HB4.out)))
  clear hrep hN hb5 HF1 HF2 ROW4 ROWn hl1
  have HN2 := Aside0.mk (show Kd.N k73 73 (Wb.alloc (.cells #[Value.int .u8 1, Value.slice (some ⟨w.heap.size, 0, none⟩) 55 55, Value.int .u8 2, Value.slice (some ⟨Wa.heap.size, 0, none⟩) 1 1] 73)) w.heap.size (fun k => w.heap.size ≤ k) (.slice (some ⟨Wa.heap.size + 1, 0, none⟩) 2 2) [⟨1, block_Disk.head a0 a1⟩, ⟨2, [(l2.length : Int) % 256]⟩] from HN.out)
  clear HN
  generalize Wb.alloc (.cells #[Value.int .u8 1, Value.slice (some ⟨w.heap.size, 0, none⟩) 55 55, Value.int .u8 2, Value.slice (some ⟨Wa.heap.size, 0, none⟩) 1 1] 73) = Wc at *
  obtain ⟨fl, hfl⟩ : ∃ fl, fl = l2.flatten := ⟨_, rfl⟩
  have HFL := Aside0.mk hfl
  have HFN := Aside0.mk (show fl.length ≤ 1000000000 by rw [hfl]; have := HL.out; simp; omega)
  refine (block_Block_50.calls _ A2 c2 l2 fl Wc (Kd.V_below HV.out HB5.out) (by unfold block_Block_50.f; rw [if_pos (by have := HL.out; omega), hfl])).mono ?_
  clear hfl
  rintro e w3 ⟨v3, rfl, hn, hb⟩
  have HN3 := Aside0.mk (Kd.N_below HN2.out hb)
  have HS5 := Aside0.mk (below_size HB5.out)
  have HB6 := Aside0.mk (HB5.out.trans (hb.mono HS5.out))
  have HM := Aside0.mk (Kd.N_mono (ok' := fun k => P2_ k ∧ k < w.heap.size ∨ w.heap.size ≤ k) hn (fun k hk => hk.elim (fun h => .inl h) (fun h => .inr (Nat.le_trans HS5.out h))))
  clear hn hb HN2
  obtain ⟨A3, c3, e3⟩ := Kd.N_slice HM.out
  subst e3
  have hrep := ((Reps.none (Kd.FK (Kd.slice 73 k73) w3 (fun k => P2_ k ∧ k < w.heap.size ∨ w.heap.size ≤ k)) (Kd.slice 73 k73).sz).snoc (p := ([⟨1, block_Disk.head a0 a1⟩, ⟨2, [(l2.length : Int) % 256]⟩] : List (S73))) (Kd.FK_slice_mk (c := 2) (by simp) (Kd.F_mono (Kd.N_F HN3.out) (fun k hk => .inr hk))) rfl).snoc (p := fl) (Kd.FK_slice_mk (Kd.N_reads' HM.out).2.1 (Kd.N_F HM.out)) rfl
  simp only [List.nil_append, List.cons_append] at hrep
  have HR2 := Aside0.mk (Kd.N_V (base' := 0) (H.litN (Kd.slice 73 k73) w.heap.size 45 hrep (fun _ h => h) (.inr (below_size HB6.out)) (below_size HB6.out) (by simp)))
  clear hrep
  have hb7 := below_alloc (Below.refl w3.heap.size w3) (.cells #[Value.slice (some ⟨Wa.heap.size + 1, 0, none⟩) 2 2, Value.slice A3 fl.length c3] 45)
  have HB7 := Aside0.mk (HB6.out.trans (hb7.mono (below_size HB6.out)))
  clear hb7
  go_wp2_with fail
  have HV7 := Aside0.mk (show Kd.V (Kd.slice 73 k73) 45 (w3.alloc (.cells #[Value.slice (some ⟨Wa.heap.size + 1, 0, none⟩) 2 2, Value.slice A3 fl.length c3] 45)) 0 (fun k => P2_ k ∧ k < w.heap.size ∨ w.heap.size ≤ k) (.slice (some ⟨w3.heap.size, 0, none⟩) [[(⟨1, block_Disk.head a0 a1⟩ : S73), ⟨2, [(l2.length : Int) % 256]⟩], fl].length 2) [[⟨1, block_Disk.head a0 a1⟩, ⟨2, [(l2.length : Int) % 256]⟩], fl] from HR2.out)
  refine (block_Block_50.calls _ (some ⟨w3.heap.size, 0, none⟩) 2 [[⟨1, block_Disk.head a0 a1⟩, ⟨2, [(l2.length : Int) % 256]⟩], fl] ([⟨1, block_Disk.head a0 a1⟩, ⟨2, [(l2.length : Int) % 256]⟩] ++ fl) _ HV7.out (by unfold block_Block_50.f; rw [if_pos (by have := HFN.out; simp; omega)]; simp)).mono ?_
  rintro e w4 ⟨v4, rfl, hn, hb⟩
  have HZ7 := Aside0.mk (below_size HB7.out)
  have HB8 := Aside0.mk (HB7.out.trans (hb.mono HZ7.out))
  have HE := Aside0.mk (Kd.N_mono (ok' := fun k => P2_ k ∨ w.heap.size ≤ k) (Kd.N_lower hn HZ7.out) (fun k hk => hk.elim (fun h => h.elim (fun h => .inl h.1) .inr) (fun h => .inr (Nat.le_trans HZ7.out h))))
  clear hn hb HV7 HM HN3 HR2
  go_wp2_with fail
  go_ret
  exact ⟨_, rfl, by rw [← HFL.out]; exact HE.out, HB8.out⟩
 ·rw [if_neg hl] at h
  cases h

/-! ### block_File: function 28, by hand -/
def block_File.head (a0 a1 : Int) (a2 : ByteArray) (a3 a4 n : Int) : List Int := [a0, a1] ++ H.spl (List.replicate 8 0) 0 ((bytesOf a2).take 8) ++ [a3 % 256, a3 / 256 % 256, n % 256, n / 256, a4]
def block_File.f (a0 a1 : Int) (a2 : ByteArray) (a3 a4 : Int) (l5 : List Int) : Option (List (S73)) :=
 if (l5.length : Int) > 65535 then some [] else some [⟨3, block_File.head a0 a1 a2 a3 a4 (l5.length : Int)⟩, ⟨4, l5⟩]
theorem block_File.spl_at (ys : List Int) (hl : ys.length ≤ 8) (a0 a1 a10 a11 a12 a13 a14 : Int) :
  (((((H.spl ((((List.replicate 15 0).set 0 a0)).set 1 a1) 2 ys).set 10 a10).set 11 a11).set 12 a12).set 13 a13).set 14 a14 = [a0, a1] ++ H.spl (List.replicate 8 0) 0 ys ++ [a10, a11, a12, a13, a14] := by
 rcases (show ys.length = 0 ∨ ys.length = 1 ∨ ys.length = 2 ∨ ys.length = 3 ∨ ys.length = 4 ∨ ys.length = 5 ∨ ys.length = 6 ∨ ys.length = 7 ∨ ys.length = 8 by omega) with h | h | h | h | h | h | h | h | h
 all_goals
  rcases ys with _ | ⟨y0, _ | ⟨y1, _ | ⟨y2, _ | ⟨y3, _ | ⟨y4, _ | ⟨y5, _ | ⟨y6, _ | ⟨y7, _ | ⟨y8, ys⟩⟩⟩⟩⟩⟩⟩⟩⟩ <;> first | rfl | (simp at h)
set_option maxHeartbeats 400000 in
set_option maxRecDepth 100000 in
theorem block_File.callsR (a0 a1 : Int) (a2 : ByteArray) (a3 a4 : Int) (A5 : Option Addr) (c5 : Nat) (l5 : List Int) (r : List (S73)) (w : World) (hr5 : Kd.C (Kd.int .u8) w A5 l5.length l5) (hc5 : l5.length ≤ c5) (h : block_File.f a0 a1 a2 a3 a4 l5 = some r) :
  Calls Try.prog 28 #[.int .u8 a0, .int .u8 a1, .string a2, .int .u16 a3, .int .u8 a4, .slice A5 l5.length c5] w fun e w' => ∃ v0_ : Value, e = .returned (v0_) ∧ Kd.N k73 73 w' w.heap.size (fun k_ => (w.heap.size ≤ k_)) v0_ r ∧ Below w.heap.size w w' := by
 unfold block_File.f at h
 by_cases hl : (l5.length : Int) > 65535
 ·rw [if_pos hl] at h
  obtain rfl := Option.some.inj h
  have t1 : decide ((65535 : Int) < (l5.length : Int)) = true := decide_eq_true hl
  clear hr5 hc5 h
  go_enter Try.func28, Try.ntmps28
  go_wp2
  go_ret
  exact ⟨_, rfl, Kd.N_nil _ _ _ _ _, Below.refl _ _⟩
 ·rw [if_neg hl] at h
  obtain rfl := Option.some.inj h
  have t1 : decide ((65535 : Int) < (l5.length : Int)) = false := decide_eq_false hl
  have HR := Aside0.mk hr5
  have HC := Aside0.mk hc5
  have HL := Aside0.mk hl
  have hl2 : (l5.length : Int) ≤ 65535 := by omega
  clear hr5 hc5 h hl
  go_enter Try.func28, Try.ntmps28
  have HSZ5 := Aside0.mk (show (Try.prog.info? 5).map (·.size) = some 1 by kernel_rfl)
  go_wp2_with (first
   | ((with_reducible refine gate_dst (N := 17) rfl ?_); refine H.makeRow rfl 22 5 _ _ rfl 15 rfl rfl Try.underlying22 info5 (by decide) ?_; intro w1 hrow hb hsz; have ROW := Aside0.mk hrow; have HB := Aside0.mk hb; have HSZ := Aside0.mk hsz; have c0 := hrow.cell 0 (by decide); have c1 := hrow.cell 1 (by decide); have f0 := hrow.frozen 0; have f1 := hrow.frozen 1; clear hrow hb hsz)
   | ((with_reducible refine gate_dst (N := 27) rfl ?_); have HROWX := (ROW.out.set_ 0 a0).set_ 1 a1; have HBX : Below w.heap.size w ((w1.setCell ⟨w.heap.size, 0, none⟩ (.int .u8 a0)).setCell ⟨w.heap.size, 1, none⟩ (.int .u8 a1)) := (HB.out.setCell (p := ⟨w.heap.size, 0, none⟩) (Nat.le_refl _) _).setCell (p := ⟨w.heap.size, 1, none⟩) (Nat.le_refl _) _; refine H.copyStr rfl (.tmp 25) (.tmp 26) 22 9 rfl 5 Try.underlying22 HSZ5.out w.heap.size 2 8 13 a2 rfl rfl 5 _ HROWX (by simp) w.heap.size w HBX (Nat.le_refl _) ?_; clear HROWX HBX; intro w2 hrow hb hk hz; have HSZ2 := Aside0.mk (show w2.heap.size = w.heap.size + 1 by rw [hz]; simp [HSZ.out]); have ROW2 := Aside0.mk hrow; have HB2 := Aside0.mk hb; have hsl := H.spl_length (((List.replicate 15 0).set 0 a0).set 1 a1) ((bytesOf a2).take 8) 2 (by simp; omega); rw [show (((List.replicate 15 (0 : Int)).set 0 a0).set 1 a1).length = 15 by simp] at hsl; have d10 := hrow.cell 10 (by rw [hsl]; decide); have d11 := hrow.cell 11 (by rw [hsl]; decide); have d12 := hrow.cell 12 (by rw [hsl]; decide); have d13 := hrow.cell 13 (by rw [hsl]; decide); have d14 := hrow.cell 14 (by rw [hsl]; decide); have e10 := hrow.frozen 10; have e11 := hrow.frozen 11; have e12 := hrow.frozen 12; have e13 := hrow.frozen 13; have e14 := hrow.frozen 14; clear hrow hb hk hz hsl; clear c0 c1 f0 f1; generalize (H.spl (((List.replicate 15 0).set 0 a0).set 1 a1) 2 ((bytesOf a2).take 8)).getD 10 0 = x10 at *; generalize (H.spl (((List.replicate 15 0).set 0 a0).set 1 a1) 2 ((bytesOf a2).take 8)).getD 11 0 = x11 at *; generalize (H.spl (((List.replicate 15 0).set 0 a0).set 1 a1) 2 ((bytesOf a2).take 8)).getD 12 0 = x12 at *; generalize (H.spl (((List.replicate 15 0).set 0 a0).set 1 a1) 2 ((bytesOf a2).take 8)).getD 13 0 = x13 at *; generalize (H.spl (((List.replicate 15 0).set 0 a0).set 1 a1) 2 ((bytesOf a2).take 8)).getD 14 0 = x14 at *))
  have HT := Aside0.mk (block_File.spl_at ((bytesOf a2).take 8) (List.length_take_le _ _) a0 a1 (a3 % 256) (a3 / 256 % 256) ((l5.length : Int) % 256) ((l5.length : Int) / 256) a4)
  have ROW6 := Aside0.mk (((((ROW2.out.set_ 10 (a3 % 256)).set_ 11 (a3 / 256 % 256)).set_ 12 ((l5.length : Int) % 256)).set_ 13 ((l5.length : Int) / 256)).set_ 14 a4)
  rw [HT.out] at ROW6
  have HB6 := Aside0.mk (((((HB2.out.setCell (p := ⟨w.heap.size, 10, none⟩) (Nat.le_refl _) (.int .u8 (a3 % 256))).setCell (p := ⟨w.heap.size, 11, none⟩) (Nat.le_refl _) (.int .u8 (a3 / 256 % 256))).setCell (p := ⟨w.heap.size, 12, none⟩) (Nat.le_refl _) (.int .u8 ((l5.length : Int) % 256))).setCell (p := ⟨w.heap.size, 13, none⟩) (Nat.le_refl _) (.int .u8 ((l5.length : Int) / 256))).setCell (p := ⟨w.heap.size, 14, none⟩) (Nat.le_refl _) (.int .u8 a4))
  refine (bytes_Clone.calls A5 c5 l5 l5 _ (Kd.C_below HR.out HB6.out) HC.out (by unfold bytes_Clone.f; rw [if_pos (by omega)])).mono ?_
  rintro e w3 ⟨v3, rfl, ho, hb⟩
  have ROW7 := Aside0.mk (ROW6.out.below hb)
  have HB7 := Aside0.mk (HB6.out.trans (hb.mono (below_size HB6.out)))
  have HO := Aside0.mk (Kd.V_mono (ok' := fun k => w.heap.size ≤ k) ho (fun k hk => Nat.le_trans (below_size HB6.out) hk))
  clear ho hb ROW6 HB6 HT ROW2 HB2 ROW HB d10 d11 d12 d13 d14 e10 e11 e12 e13 e14
  obtain ⟨A3, c3, e3⟩ := Kd.V_slice HO.out
  subst e3
  have hhl : (block_File.head a0 a1 a2 a3 a4 (l5.length : Int)).length = 15 := by unfold block_File.head; simp [H.spl]; omega
  have HF1 := Aside0.mk (show Kd.F (Kd.int .u8) w3 (fun k => w.heap.size ≤ k) (some ⟨w.heap.size, 0, none⟩) (block_File.head a0 a1 a2 a3 a4 (l5.length : Int)).length (block_File.head a0 a1 a2 a3 a4 (l5.length : Int)) from Kd.F_mono (Kd.V_F (ROW7.out.V 0 (by rw [show ([a0, a1] ++ H.spl (List.replicate 8 0) 0 ((bytesOf a2).take 8) ++ [a3 % 256, a3 / 256 % 256, (l5.length : Int) % 256, (l5.length : Int) / 256, a4]).length = 15 from hhl]; decide))) (fun k hk => Nat.le_of_eq hk.symm))
  have HHL := Aside0.mk hhl
  clear ROW7 hhl
  have hrep := ((Reps.none (Kd.FK k73 w3 (fun k => w.heap.size ≤ k)) k73.sz).snoc (p := (⟨3, block_File.head a0 a1 a2 a3 a4 (l5.length : Int)⟩ : S73)) (k73_mkF w3 _ (⟨3, block_File.head a0 a1 a2 a3 a4 (l5.length : Int)⟩ : S73) (Nat.le_of_eq HHL.out) HF1.out) rfl).snoc (p := (⟨4, l5⟩ : S73)) (k73_mkF w3 _ (⟨4, l5⟩ : S73) (Kd.V_reads' HO.out).2.1 (Kd.V_F HO.out)) rfl
  simp only [List.nil_append, List.cons_append] at hrep
  rw [HHL.out] at hrep
  have HREP := Aside0.mk hrep
  clear hrep
  go_wp2
  go_ret
  exact ⟨_, rfl, H.litN k73 w.heap.size 73 HREP.out (fun _ h => h) (below_size HB7.out) (below_size HB7.out) (by simp), below_alloc HB7.out _⟩

theorem block_File.calls (a0 a1 : Int) (a2 : ByteArray) (a3 a4 : Int) (A5 : Option Addr) (c5 : Nat) (l5 : List Int) (r : List (S73)) (w : World) (hr5 : Kd.C (Kd.int .u8) w A5 l5.length l5) (hc5 : l5.length ≤ c5) (h : block_File.f a0 a1 a2 a3 a4 l5 = some r) :
  Calls Try.prog 28 #[.int .u8 a0, .int .u8 a1, .string a2, .int .u16 a3, .int .u8 a4, .slice A5 l5.length c5] w fun e w' => ∃ v0_ : Value, e = .returned (v0_) ∧ Kd.V k73 73 w' w.heap.size (fun k_ => (w.heap.size ≤ k_)) v0_ r ∧ Below w.heap.size w w' := by
 refine (block_File.callsR a0 a1 a2 a3 a4 A5 c5 l5 r w hr5 hc5 h).mono ?_
 rintro e w' ⟨v0_, rfl, ho, hb⟩
 exact ⟨v0_, rfl, Kd.N_V ho, hb⟩

end Go.Proofs.Ythnfmoaiejaheaa.PDiskRefuses
