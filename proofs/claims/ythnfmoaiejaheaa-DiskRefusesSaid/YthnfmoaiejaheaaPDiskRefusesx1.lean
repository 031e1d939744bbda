-- made by a program of this repo (wip/patch_print.py); not trusted: Lean checks it
import Derived.Test.YthnfmoaiejaheaaPDiskRefusesx0
-- squeezed
namespace Go.Proofs.Ythnfmoaiejaheaa.PDiskRefuses
open Go.RowKit Go.Proofs.YthnfmoaiejaheaaW.PrintWords Go.Proofs.YthnfmoaiejaheaaW.PrintLast Go.Proofs.YthnfmoaiejaheaaW.PrintMore
attribute [local go_sem] max2_int min2_int max_two min_two max_three min_three max_four min_four   -- for this text's walks alone
set_option linter.unusedVariables false
set_option linter.unusedSimpArgs false

/-! ### disk_each: function 34 -/
def disk_each.f (a0 : Int) : Option (Int) := if a0 = 3 then (some 65536) else (some 65500)
set_option maxHeartbeats 8000000 in
set_option maxRecDepth 100000 in
theorem disk_each.calls (a0 : Int) (r : Int) (w : World) (h : disk_each.f a0 = some r) :
  Calls Try.prog 34 #[.int .u8 a0] w fun e w' => e = .returned (.int .i64 r) ∧ Drawn0 w w' := by
 have H : (if a0 = 3 then (some 65536) else (some 65500)) = some r := h
 clear h
 by_cases c2 : a0 = 3
 ·rw [if_pos c2] at H
  have c2b0 : (a0 == 3) = true := beq_iff_eq.mpr c2
  have c2b1 : (a0 != 3) = false := bne_eq_false_iff_eq.mpr c2
  clear c2
  obtain rfl := Option.some.inj H
  go_enter Try.func34, Try.ntmps34
  go_wp2
  go_ret
  exact ⟨by first | rfl | (simp; done) | (simp [*]; done), by repeat (first | exact Drawn0.refl _ | apply Drawn0.step)⟩
 ·rw [if_neg c2] at H
  have c2b0 : (a0 == 3) = false := beq_eq_false_iff_ne.mpr c2
  have c2b1 : (a0 != 3) = true := bne_iff_ne.mpr c2
  obtain rfl := Option.some.inj H
  go_enter Try.func34, Try.ntmps34
  go_wp2
  go_ret
  exact ⟨by first | rfl | (simp; done) | (simp [*]; done), by repeat (first | exact Drawn0.refl _ | apply Drawn0.step)⟩

/-! ### disk_Set_Right: function 16 -/
def disk_Set_Right.l0 : Nat → List (List Int) → Int → Int → Int → List (List Int) → Option (Bool)
 | 0, _, _, _, _, _ => none
 | k + 1, x6, x7, x8, x102000, x102001 => if x8 < x7 then (if 0 ≤ x8 then (if x8 < (x6.length : Int) then ((disk_each.f x102000).bind fun t103 => (if ((rd_L1 x6 x8).length : Int) = t103 then (disk_Set_Right.l0 k x6 x7 (wrap64 (x8 + 1)) x102000 x102001) else (some false))) else (none)) else (none)) else (if x102000 ≥ 1 then (if x102000 ≤ 3 then (if (x102001.length : Int) ≥ 1 then (some (decide ((x102001.length : Int) ≤ 8))) else (some false)) else (some false)) else (some false))
def disk_Set_Right.f (k : Nat) (a0_0 : Int) (l0_1 : List (List Int)) : Option (Bool) := disk_Set_Right.l0 k l0_1 (l0_1.length : Int) 0 a0_0 l0_1
set_option maxHeartbeats 8000000 in
set_option maxRecDepth 100000 in
theorem disk_Set_Right.calls (k : Nat) (a0_0 : Int) (A0_1 : Option Addr) (c0_1 : Nat) (l0_1 : List (List Int)) (r : Bool) (w : World) (hr0_1 : Kd.C (Kd.slice 5 (Kd.int .u8)) w A0_1 l0_1.length l0_1) (hc0_1 : l0_1.length ≤ c0_1) (h : disk_Set_Right.f k a0_0 l0_1 = some r) :
  Calls Try.prog 16 #[.agg #[.int .u8 a0_0, .slice A0_1 l0_1.length c0_1]] w fun e w' => e = .returned (.bool r) ∧ Below w.heap.size w w' := by
 have hu30 := Try.underlying30
 have HR0_1 := Aside0.mk hr0_1
 have HC0_1 := Aside0.mk hc0_1
 clear hr0_1 hc0_1
 have HB := Aside0.mk (Below.refl w.heap.size w)
 have H : (disk_Set_Right.l0 k l0_1 (l0_1.length : Int) 0 a0_0 l0_1) = some r := h
 clear h
 have H' := Aside0.mk H
 clear H
 go_enter Try.func16, Try.ntmps16
 go_wp2_with (first | ((with_reducible refine gate_dst (N := 1) rfl ?_); (try (refine gate_guard (by rfl) ?_; dsimp only)); refine box_event ?hg (N := 1) ?hd (cs := #[.int .u8 a0_0, .slice A0_1 l0_1.length c0_1]) (t := 30) ?hr ?_; (case hd => rfl); (case hg => rfl); (case hr => first | (go_simp; done) | (go_simp; rfl)); intro gb101 hg w2 hbox hb; have n0_ := Aside0.mk (below_step (by repeat (first | (with_reducible first | exact HB.out | apply below_alloc | apply pw_below_drewN | apply below_drew1) | exact HB.out)) hb); have n1_ := Aside0.mk (hbox); have n2_ := Aside0.mk ((by rw [hg]; exact (below_size (by repeat (first | (with_reducible first | exact HB.out | apply below_alloc | apply pw_below_drewN | apply below_drew1) | exact HB.out))) : w.heap.size ≤ gb101)); have n3_ := Aside0.mk ((by rw [hg]; exact (below_size (by repeat (first | (with_reducible first | exact HB.out | apply below_alloc | apply pw_below_drewN | apply below_drew1) | exact HB.out))) : w.heap.size ≤ gb101)); clear HB; have HB := n0_; have BK101 := n1_; have GW101 := n2_; have GE101 := n3_; clear n0_ n1_ n2_ n3_; clear hb hbox hg; have hcz3_0 : w2.cell? ⟨gb101, 0, none⟩ = some (.int .u8 a0_0) := (blk_cell BK101.out 0).trans rfl; have hcz3_1 : w2.cell? ⟨gb101, 1, none⟩ = some (.slice A0_1 l0_1.length c0_1) := (blk_cell BK101.out 1).trans rfl; have hfz3_0 := blk_frozen BK101.out 0; have hfz3_1 := blk_frozen BK101.out 1))
 go_loopg [8] k (fun kq v8 w' => ∃ (x8_1 : Int), v8 = .int .i64 x8_1 ∧ Aside0 (disk_Set_Right.l0 kq l0_1 (l0_1.length : Int) x8_1 a0_0 l0_1 = some r) ∧ Aside0 (kq ≤ k) ∧ Aside0 (w'.heap[gb101]? = some (.cells #[.int .u8 a0_0, (.slice A0_1 l0_1.length c0_1)] 30 (0, 0))) ∧ Aside0 (Below w.heap.size w w'))
 case atStart => exact ⟨(0), (by first | rfl | (simp; done) | (simp [*]; done)), H', ⟨Nat.le_refl _⟩, ⟨by (with_reducible repeat (first | refine blk_drewN ?_ _ | refine blk_drew ?_ | refine blk_alloc ?_ _)); exact BK101.out⟩, ⟨by repeat (first | (with_reducible first | exact HB.out | apply below_alloc | apply pw_below_drewN | apply below_drew1 | refine below_set ?_ GE101.out) | exact HB.out)⟩⟩
 case round =>
  clear H'
  try clear c1
  try clear p2
  try clear hcz3_0
  try clear hcz3_1
  try clear hfz3_0
  try clear hfz3_1
  obtain ⟨x8_1, rfl, HA, HK1, BK101, HB⟩ := hrel
  cases gk with
  | zero => exact absurd HA.out (by simp [disk_Set_Right.l0])
  | succ k1 =>
   have H := HA.out
   clear HA
   simp only [disk_Set_Right.l0] at H
   by_cases c4 : x8_1 < (l0_1.length : Int)
   ·rw [if_pos c4] at H
    have c4b0 : decide (x8_1 < (l0_1.length : Int)) = true := decide_eq_true c4
    clear c4
    by_cases c5 : 0 ≤ x8_1
    ·rw [if_pos c5] at H
     have c5b0 : decide (0 ≤ x8_1) = true := decide_eq_true c5
     clear c5
     by_cases c6 : x8_1 < (l0_1.length : Int)
     ·rw [if_pos c6] at H
      have c6b0 : decide (x8_1 < (l0_1.length : Int)) = true := decide_eq_true c6
      clear c6
      replace H := Option.bind_eq_some_iff.mp H
      obtain ⟨t103, A70, H⟩ := H
      replace H : (if ((rd_L1 l0_1 x8_1).length : Int) = t103 then (disk_Set_Right.l0 k1 l0_1 (l0_1.length : Int) (wrap64 (x8_1 + 1)) a0_0 l0_1) else (some false)) = some r := H
      have A7 := Aside0.mk A70
      clear A70
      by_cases c8 : ((rd_L1 l0_1 x8_1).length : Int) = t103
      ·rw [if_pos c8] at H
       have c8b0 : (((rd_L1 l0_1 x8_1).length : Int) == t103) = true := beq_iff_eq.mpr c8
       have c8b1 : (((rd_L1 l0_1 x8_1).length : Int) != t103) = false := bne_eq_false_iff_eq.mpr c8
       clear c8
       have H' := Aside0.mk H
       clear H
       have p102 : 0 ≤ (x8_1 : Int) := of_decide_eq_true (by first | (with_reducible assumption) | assumption)
       have q102 : x8_1 < (l0_1.length : Int) := of_decide_eq_true (by first | (with_reducible assumption) | assumption)
       obtain ⟨ad102, A102_0, c102_0, e102, hx102_0, hl102_0, hi102_0⟩ := at_L1 HR0_1.out x8_1 p102 q102
       cases e102
       replace hx102_0 := (HB.out.cell (World.block_lt_of_cell? w _ hx102_0)).trans hx102_0
       have HR102_0 := Aside0.mk hi102_0
       have HC102_0 := Aside0.mk hl102_0
       clear hi102_0 hl102_0
       replace p102 := eq_true p102
       replace q102 := eq_true q102
       have hcz9_0 : wr.cell? ⟨gb101, 0, none⟩ = some (.int .u8 a0_0) := (blk_cell BK101.out 0).trans rfl
       have hcz9_1 : wr.cell? ⟨gb101, 1, none⟩ = some (.slice (some ad102) l0_1.length c0_1) := (blk_cell BK101.out 1).trans rfl
       have hfz9_0 := blk_frozen BK101.out 0
       have hfz9_1 := blk_frozen BK101.out 1
       go_wp2_with (first | ((with_reducible refine gate_callee (f := 34) rfl ?_); refine goesL_ (some 16) rfl rfl Try.func34 (by kernel_rfl) rfl #[.int .u8 a0_0] rfl (by (try simp only [List.map_toArray, List.map_cons, List.map_nil]); first | done | rfl | (simp only [List.length_drop, List.length_take]; rfl)) ?_; (with_reducible refine (disk_each.calls a0_0 t103 _ A7.out).mono ?_); rintro e w' ⟨rfl, ⟨nd, rfl⟩⟩; refine ⟨_, rfl, ?_⟩))
       go_roundg k1
       case measure => have := HK1.out; omega
       case rel => exact ⟨(wrap64 (x8_1 + 1)), (by first | rfl | (simp; done) | (simp [*]; done)), H', ⟨by have := HK1.out; omega⟩, ⟨by (with_reducible repeat (first | refine blk_drewN ?_ _ | refine blk_drew ?_ | refine blk_alloc ?_ _)); exact BK101.out⟩, ⟨by repeat (first | (with_reducible first | exact HB.out | apply below_alloc | apply pw_below_drewN | apply below_drew1 | refine below_set ?_ GE101.out) | exact HB.out)⟩⟩
      ·rw [if_neg c8] at H
       have c8b0 : (((rd_L1 l0_1 x8_1).length : Int) == t103) = false := beq_eq_false_iff_ne.mpr c8
       have c8b1 : (((rd_L1 l0_1 x8_1).length : Int) != t103) = true := bne_iff_ne.mpr c8
       obtain rfl := Option.some.inj H
       have p102 : 0 ≤ (x8_1 : Int) := of_decide_eq_true (by first | (with_reducible assumption) | assumption)
       have q102 : x8_1 < (l0_1.length : Int) := of_decide_eq_true (by first | (with_reducible assumption) | assumption)
       obtain ⟨ad102, A102_0, c102_0, e102, hx102_0, hl102_0, hi102_0⟩ := at_L1 HR0_1.out x8_1 p102 q102
       cases e102
       replace hx102_0 := (HB.out.cell (World.block_lt_of_cell? w _ hx102_0)).trans hx102_0
       have HR102_0 := Aside0.mk hi102_0
       have HC102_0 := Aside0.mk hl102_0
       clear hi102_0 hl102_0
       replace p102 := eq_true p102
       replace q102 := eq_true q102
       have hcz10_0 : wr.cell? ⟨gb101, 0, none⟩ = some (.int .u8 a0_0) := (blk_cell BK101.out 0).trans rfl
       have hcz10_1 : wr.cell? ⟨gb101, 1, none⟩ = some (.slice (some ad102) l0_1.length c0_1) := (blk_cell BK101.out 1).trans rfl
       have hfz10_0 := blk_frozen BK101.out 0
       have hfz10_1 := blk_frozen BK101.out 1
       go_wp2_with (first | ((with_reducible refine gate_callee (f := 34) rfl ?_); refine goesL_ (some 16) rfl rfl Try.func34 (by kernel_rfl) rfl #[.int .u8 a0_0] rfl (by (try simp only [List.map_toArray, List.map_cons, List.map_nil]); first | done | rfl | (simp only [List.length_drop, List.length_take]; rfl)) ?_; (with_reducible refine (disk_each.calls a0_0 t103 _ A7.out).mono ?_); rintro e w' ⟨rfl, ⟨nd, rfl⟩⟩; refine ⟨_, rfl, ?_⟩))
       go_ret
       exact ⟨by first | rfl | (simp [errW_none, errW_some] <;> rfl) | (simp [*, errW_none, errW_some] <;> rfl), by repeat (first | (with_reducible first | exact HB.out | apply below_alloc | apply pw_below_drewN | apply below_drew1 | refine below_set ?_ GE101.out) | exact HB.out)⟩
     ·rw [if_neg c6] at H
      exact absurd H (by simp)
    ·rw [if_neg c5] at H
     exact absurd H (by simp)
   ·rw [if_neg c4] at H
    have c4b0 : decide (x8_1 < (l0_1.length : Int)) = false := decide_eq_false c4
    clear c4
    by_cases c11 : a0_0 ≥ 1
    ·rw [if_pos c11] at H
     have c11b0 : decide (1 ≤ a0_0) = true := decide_eq_true c11
     clear c11
     by_cases c12 : a0_0 ≤ 3
     ·rw [if_pos c12] at H
      have c12b0 : decide (a0_0 ≤ 3) = true := decide_eq_true c12
      clear c12
      by_cases c13 : (l0_1.length : Int) ≥ 1
      ·rw [if_pos c13] at H
       have c13b0 : decide (1 ≤ (l0_1.length : Int)) = true := decide_eq_true c13
       have c13b1 : decide (1 ≤ l0_1.length) = true := decide_eq_true (by omega)
       clear c13
       obtain rfl := Option.some.inj H
       have hcz14_0 : wr.cell? ⟨gb101, 0, none⟩ = some (.int .u8 a0_0) := (blk_cell BK101.out 0).trans rfl
       have hcz14_1 : wr.cell? ⟨gb101, 1, none⟩ = some (.slice A0_1 l0_1.length c0_1) := (blk_cell BK101.out 1).trans rfl
       have hfz14_0 := blk_frozen BK101.out 0
       have hfz14_1 := blk_frozen BK101.out 1
       go_wp2
       go_ret
       exact ⟨by first | rfl | (simp [errW_none, errW_some] <;> rfl) | (simp [*, errW_none, errW_some] <;> rfl), by repeat (first | (with_reducible first | exact HB.out | apply below_alloc | apply pw_below_drewN | apply below_drew1 | refine below_set ?_ GE101.out) | exact HB.out)⟩
      ·rw [if_neg c13] at H
       have c13b0 : decide (1 ≤ (l0_1.length : Int)) = false := decide_eq_false c13
       have c13b1 : decide (1 ≤ l0_1.length) = false := decide_eq_false (by omega)
       clear c13
       obtain rfl := Option.some.inj H
       have hcz15_0 : wr.cell? ⟨gb101, 0, none⟩ = some (.int .u8 a0_0) := (blk_cell BK101.out 0).trans rfl
       have hcz15_1 : wr.cell? ⟨gb101, 1, none⟩ = some (.slice A0_1 l0_1.length c0_1) := (blk_cell BK101.out 1).trans rfl
       have hfz15_0 := blk_frozen BK101.out 0
       have hfz15_1 := blk_frozen BK101.out 1
       go_wp2
       go_ret
       exact ⟨by first | rfl | (simp [errW_none, errW_some] <;> rfl) | (simp [*, errW_none, errW_some] <;> rfl), by repeat (first | (with_reducible first | exact HB.out | apply below_alloc | apply pw_below_drewN | apply below_drew1 | refine below_set ?_ GE101.out) | exact HB.out)⟩
     ·rw [if_neg c12] at H
      have c12b0 : decide (a0_0 ≤ 3) = false := decide_eq_false c12
      clear c12
      obtain rfl := Option.some.inj H
      have hcz16_0 : wr.cell? ⟨gb101, 0, none⟩ = some (.int .u8 a0_0) := (blk_cell BK101.out 0).trans rfl
      have hcz16_1 : wr.cell? ⟨gb101, 1, none⟩ = some (.slice A0_1 l0_1.length c0_1) := (blk_cell BK101.out 1).trans rfl
      have hfz16_0 := blk_frozen BK101.out 0
      have hfz16_1 := blk_frozen BK101.out 1
      go_wp2
      go_ret
      exact ⟨by first | rfl | (simp [errW_none, errW_some] <;> rfl) | (simp [*, errW_none, errW_some] <;> rfl), by repeat (first | (with_reducible first | exact HB.out | apply below_alloc | apply pw_below_drewN | apply below_drew1 | refine below_set ?_ GE101.out) | exact HB.out)⟩
    ·rw [if_neg c11] at H
     have c11b0 : decide (1 ≤ a0_0) = false := decide_eq_false c11
     clear c11
     obtain rfl := Option.some.inj H
     have hcz17_0 : wr.cell? ⟨gb101, 0, none⟩ = some (.int .u8 a0_0) := (blk_cell BK101.out 0).trans rfl
     have hcz17_1 : wr.cell? ⟨gb101, 1, none⟩ = some (.slice A0_1 l0_1.length c0_1) := (blk_cell BK101.out 1).trans rfl
     have hfz17_0 := blk_frozen BK101.out 0
     have hfz17_1 := blk_frozen BK101.out 1
     go_wp2
     go_ret
     exact ⟨by first | rfl | (simp [errW_none, errW_some] <;> rfl) | (simp [*, errW_none, errW_some] <;> rfl), by repeat (first | (with_reducible first | exact HB.out | apply below_alloc | apply pw_below_drewN | apply below_drew1 | refine below_set ?_ GE101.out) | exact HB.out)⟩

-- NOT PRINTED: function 52 (slices_Grow_byte_byte)

/-! ### slices_Concat_byte_byte: function 33, by hand -/
def slices_Concat_byte_byte.f (l0 : List (List Int)) : Option (List Int) := if (l0.map List.length).sum ≤ 4398046511104 ∧ l0.length ≤ 4398046511104 then some l0.flatten else none
theorem slices_Concat_byte_byte.getD_take {α : Type} (l : List (List α)) (i : Nat) (h : i < l.length) : l.take (i + 1) = l.take i ++ [l.getD i []] := by
 rw [List.take_succ_eq_append_getElem h, List.getD_eq_getElem?_getD, List.getElem?_eq_getElem h]; rfl
theorem slices_Concat_byte_byte.sum_take {α : Type} (l : List (List α)) (i : Nat) (h : i < l.length) : ((l.take (i + 1)).map List.length).sum = ((l.take i).map List.length).sum + (l.getD i []).length := by
 rw [slices_Concat_byte_byte.getD_take l i h]; simp
theorem slices_Concat_byte_byte.sum_le {α : Type} (l : List (List α)) (i : Nat) : ((l.take i).map List.length).sum ≤ (l.map List.length).sum := by
 have h : (l.map List.length).sum = ((l.take i).map List.length).sum + ((l.drop i).map List.length).sum := by rw [← List.sum_append, ← List.map_append, List.take_append_drop]
 omega
theorem slices_Concat_byte_byte.flat_take {α : Type} (l : List (List α)) (i : Nat) (h : i < l.length) : (l.take (i + 1)).flatten = (l.take i).flatten ++ l.getD i [] := by
 rw [slices_Concat_byte_byte.getD_take l i h]; simp
theorem slices_Concat_byte_byte.flat_len {α : Type} (l : List (List α)) : l.flatten.length = (l.map List.length).sum := by simp
set_option maxHeartbeats 4000000 in
theorem slices_Concat_byte_byte.grow (n : Int) (w : World) (h0 : 0 ≤ n) (hl : n ≤ 4398046511104) :
  Calls Try.prog 52 #[.slice none 0 0, .int .i64 n] w fun e w' => ∃ v, e = .returned v ∧ Kd.R (Kd.int .u8) 5 w' w.heap.size (fun k => w.heap.size ≤ k) v [] ∧ Below w.heap.size w w' := by
 by_cases hn : n = 0
 ·subst hn
  go_enter Try.func52, Try.ntmps52
  go_wp2
  go_ret
  exact ⟨_, rfl, Kd.R_nil _ _ _ _ _, Below.refl _ _⟩
 ·have t1 : decide (n < 0) = false := decide_eq_false (by omega)
  have t2 : decide (0 < n) = true := decide_eq_true (by omega)
  have HN := Aside0.mk (show 0 < n by omega)
  clear hn
  go_enter Try.func52, Try.ntmps52
  go_wp2_with ((with_reducible refine gate_dst (N := 22) rfl ?_); (try (refine gate_guard (by rfl) ?_; dsimp only)); refine Kd.R_append_zeros (Kd.int .u8) (w0 := w) w.heap.size rfl (.tmp 20) (.tmp 21) 22 3 5 (.int .u8 0) 1 rfl Try.underlying22 Try.underlying3 info5 rfl (by decide) (by omega) (.slice none 0 0) [] (0 : Int) n (fun k => w.heap.size ≤ k) rfl rfl ?aZ ?aF ?aO h0 ?aB ?aS ?aL ?_; (case aZ => rfl); (case aF => exact fun k hk => hk); (case aO => exact Kd.R_nil _ _ _ _ _); (case aB => exact Below.refl _ _); (case aS => exact Nat.le_refl _); (case aL => simp; omega); intro v1 w1 ho hb hg hat; have HO := Aside0.mk ho; have HB := Aside0.mk hb; clear ho hb hg hat; obtain ⟨A1, c1, e1⟩ := Kd.R_slice HO.out; subst e1; have q1 : (List.replicate n.toNat (0 : Int)).length = n.toNat := List.length_replicate)
  go_ret
  exact ⟨_, rfl, Kd.R_take HO.out (m := 0) (Nat.zero_le _), HB.out⟩
set_option maxHeartbeats 8000000 in
set_option maxRecDepth 100000 in
theorem slices_Concat_byte_byte.calls (A0 : Option Addr) (c0 : Nat) (l0 : List (List Int)) (r : List Int) (w : World) (hr0 : Kd.C (Kd.slice 5 (Kd.int .u8)) w A0 l0.length l0) (hc0 : l0.length ≤ c0) (h : slices_Concat_byte_byte.f l0 = some r) :
  Calls Try.prog 33 #[.slice A0 l0.length c0] w fun e w' => ∃ v0_ : Value, e = .returned (v0_) ∧ Kd.R (Kd.int .u8) 5 w' w.heap.size (fun _ => True) v0_ r ∧ Below w.heap.size w w' := by
 unfold slices_Concat_byte_byte.f at h
 by_cases hs : (l0.map List.length).sum ≤ 4398046511104 ∧ l0.length ≤ 4398046511104
 ·rw [if_pos hs] at h
  obtain rfl := Option.some.inj h
  clear h
  have HS := Aside0.mk hs
  have HV := Aside0.mk hr0
  have HL := Aside0.mk (fun i => slices_Concat_byte_byte.sum_le l0 i)
  have hl0 : (l0.length : Int) ≤ 4398046511104 := by omega
  clear hs hr0 hc0
  go_enter Try.func33, Try.ntmps33
  go_wp2
  go_loopg [3, 11] l0.length (fun kq v3 v11 w' => ∃ i : Nat, v3 = .int .i64 (((l0.take i).map List.length).sum : Nat) ∧ v11 = .int .i64 (i : Int) ∧ Aside0 (i + kq = l0.length) ∧ w = w')
  case atStart => exact ⟨0, rfl, rfl, ⟨by omega⟩, rfl⟩
  case round =>
   obtain ⟨i, rfl, rfl, HI, rfl⟩ := hrel
   by_cases hi : i < l0.length
   ·obtain ⟨ad, cs, eA, hcl, hK, hcc⟩ := Kd.C_get HV.out ([] : List Int) (i : Int) (by omega) (by omega)
    obtain ⟨A1, c1, rfl, hl1, hF1⟩ := hK
    subst eA
    have hx : w.cell? (ad.add i) = some (.slice A1 (l0.getD i []).length c1) := by
     have := hcc 0 _ rfl
     simpa [Kd.slice] using this
    have hsum := slices_Concat_byte_byte.sum_take l0 i hi
    have hle := HL.out (i + 1)
    have hS := HS.out
    have HI2 := Aside0.mk (show (i + 1) + (gk - 1) = l0.length ∧ gk - 1 < gk by have := HI.out; omega)
    have HSUM := Aside0.mk hsum
    have hb : (((l0.take i).map List.length).sum : Int) + ((l0.getD i []).length : Int) ≤ 4398046511104 := by omega
    have hb0 : 0 ≤ (((l0.take i).map List.length).sum : Int) + ((l0.getD i []).length : Int) := by omega
    have d1 : decide ((i : Int) < (l0.length : Int)) = true := decide_eq_true (by omega)
    have d2 : decide ((((l0.take i).map List.length).sum : Int) + ((l0.getD i []).length : Int) < 0) = false := decide_eq_false (by omega)
    have p1 := eq_true (show (0 : Int) ≤ (i : Int) by omega)
    have p2 := eq_true (show (i : Int) < (l0.length : Int) by omega)
    clear hsum hle hS hcc hcl hF1 hl1
    generalize hg1 : ((l0.take i).map List.length).sum = sm at *
    generalize hg2 : (l0.getD i []).length = ln at *
    go_wp2
    go_roundg (gk - 1)
    case measure => have := HI2.out.2; omega
    case rel =>
     exact ⟨i + 1, by rw [HSUM.out]; first | rfl | (push_cast; rfl) | (congr 1; push_cast; omega), by first | rfl | (push_cast; rfl), ⟨HI2.out.1⟩, rfl⟩
   ·have hin : i = l0.length := by have := HI.out; omega
    subst hin
    rw [List.take_length]
    have hS := HS.out
    have d1 : decide ((l0.length : Int) < (l0.length : Int)) = false := decide_eq_false (by omega)
    have n0 : (0 : Int) ≤ ((l0.map List.length).sum : Nat) := by omega
    have HG := Aside0.mk (slices_Concat_byte_byte.grow (((l0.map List.length).sum : Nat) : Int) w n0 (by omega))
    have HFL := Aside0.mk (slices_Concat_byte_byte.flat_len l0)
    clear hi HI hS
    generalize hsm : (l0.map List.length).sum = sm at *
    go_wp2_with (go_at_call 52; refine HG.out.mono ?_; rintro e w1 ⟨v1, rfl, ho, hb⟩; have HO := Aside0.mk ho; have HB := Aside0.mk hb; clear ho hb)
    go_loopg [6, 27] l0.length (fun kq v6 v27 w' => ∃ i : Nat, v27 = .int .i64 (i : Int) ∧ Aside0 (i + kq = l0.length) ∧ Aside0 (Kd.R (Kd.int .u8) 5 w' w.heap.size (fun _ => True) v6 (l0.take i).flatten) ∧ Aside0 (Below w.heap.size w w'))
    case atStart => exact ⟨0, rfl, ⟨by omega⟩, ⟨Kd.R_mono HO.out (fun k hk => trivial)⟩, HB⟩
    case round =>
     obtain ⟨i, rfl, HI, HO2, HB2⟩ := hrel
     by_cases hi : i < l0.length
     ·obtain ⟨ad, cs, eA, hcl, hK, hcc⟩ := Kd.C_get HV.out ([] : List Int) (i : Int) (by omega) (by omega)
      obtain ⟨A1, c1, rfl, hl1, hF1⟩ := hK
      subst eA
      have hx : wr.cell? (ad.add i) = some (.slice A1 (l0.getD i []).length c1) := by
       have := hcc 0 _ rfl
       refine pw_cell_below HB2.out ?_
       simpa [Kd.slice] using this
      have hF2 := Aside0.mk (Kd.C_below hF1 HB2.out)
      have hle := HL.out (i + 1)
      have hsum := slices_Concat_byte_byte.sum_take l0 i hi
      have HT := Aside0.mk (slices_Concat_byte_byte.flat_take l0 i hi)
      have hS := HS.out
      have hfl := slices_Concat_byte_byte.flat_len (l0.take i)
      have HLEN := Aside0.mk (show ((l0.take i).flatten.length + (l0.getD i []).length) * 1 ≤ 140737488355328 by rw [hfl]; omega)
      have HI2 := Aside0.mk (show (i + 1) + (gk - 1) = l0.length ∧ gk - 1 < gk by have := HI.out; omega)
      have d1 : decide ((i : Int) < (l0.length : Int)) = true := decide_eq_true (by omega)
      have p1 := eq_true (show (0 : Int) ≤ (i : Int) by omega)
      have p2 := eq_true (show (i : Int) < (l0.length : Int) by omega)
      clear hsum hle hS hcc hcl hF1 hl1 hfl
      simp only [Int.toNat_natCast] at hF2
      generalize hg2 : l0.getD i [] = ys at *
      go_wp2_with ((with_reducible refine gate_dst (N := 33) rfl ?_); (try (refine gate_guard (by rfl) ?_; dsimp only)); refine Kd.R_append_rows (Kd.int .u8) (w0 := w) w.heap.size rfl (.tmp 31) (.tmp 32) 22 5 (.int .u8 0) 1 rfl Try.underlying22 info5 rfl (by decide) (by omega) u6 (l0.take i).flatten ys A1 ys.length c1 (fun _ => True) (fun _ => False) rfl rfl HO2.out hF2.out ?aM ?aK ?aF HB2.out ?aS HLEN.out ?_; (case aM => exact fun x cs hx => hx); (case aK => exact fun k hk => hk.elim); (case aF => exact fun k hk => trivial); (case aS => exact below_size HB2.out); intro v1 w2 ho hb hg hat; rw [← HT.out] at ho; have HO3 := Aside0.mk ho; have HB3 := Aside0.mk hb; clear ho hb hg hat)
      go_roundg (gk - 1)
      case measure => have := HI2.out.2; omega
      case rel => exact ⟨i + 1, by first | rfl | (push_cast; rfl), ⟨HI2.out.1⟩, HO3, HB3⟩
     ·have hin : i = l0.length := by have := HI.out; omega
      subst hin
      have d1 : decide ((l0.length : Int) < (l0.length : Int)) = false := decide_eq_false (by omega)
      rw [List.take_length] at HO2
      clear hi HI
      go_wp2
      go_ret
      exact ⟨_, rfl, HO2.out, HB2.out⟩
 ·rw [if_neg hs] at h
  cases h

/-! ### disk_Set_Bytes: function 15, by hand -/
def disk_Set_Bytes.f (k : Nat) (a0_0 : Int) (l0_1 : List (List Int)) : Option (List Int) := (disk_Set_Right.f k a0_0 l0_1).bind fun t105 => (if t105 = true then (if a0_0 = 2 then ((some (([70, 68, 83, 26] : List Int) : List Int)).bind fun y106 => (if y106.length < 140737488355328 then ((some (y106 ++ [((l0_1.length : Int)) % 256] : List Int)).bind fun y109 => (if 0 ≤ (wrap64 (16 - (y109.length : Int))) then (if y109.length + (wrap64 (16 - (y109.length : Int)) : Int).toNat < 140737488355328 then ((some (y109 ++ List.replicate (wrap64 (16 - (y109.length : Int)) : Int).toNat 0 : List Int)).bind fun y112 => ((slices_Concat_byte_byte.f l0_1).bind fun t115 => (if y112.length + t115.length < 140737488355328 then (some (y112 ++ t115)) else (none)))) else (none)) else (none))) else (none))) else ((slices_Concat_byte_byte.f l0_1).bind fun t121 => (if ([] : List Int).length + t121.length < 140737488355328 then (some (([] : List Int) ++ t121)) else (none)))) else (some ([] : List Int)))
set_option maxHeartbeats 8000000 in
set_option maxRecDepth 100000 in
theorem disk_Set_Bytes.calls (k : Nat) (a0_0 : Int) (A0_1 : Option Addr) (c0_1 : Nat) (l0_1 : List (List Int)) (r : List Int) (w : World) (hr0_1 : Kd.C (Kd.slice 5 (Kd.int .u8)) w A0_1 l0_1.length l0_1) (hc0_1 : l0_1.length ≤ c0_1) (h : disk_Set_Bytes.f k a0_0 l0_1 = some r) :
  Calls Try.prog 15 #[.agg #[.int .u8 a0_0, .slice A0_1 l0_1.length c0_1]] w fun e w' => ∃ v0_ : Value, e = .returned (v0_) ∧ Kd.R (Kd.int .u8) 5 w' w.heap.size (fun _ => True) v0_ r ∧ Below w.heap.size w w' := by
 have hu30 := Try.underlying30
 have HR0_1 := Aside0.mk hr0_1
 have HC0_1 := Aside0.mk hc0_1
 clear hr0_1 hc0_1
 have HB := Aside0.mk (Below.refl w.heap.size w)
 have H : ((disk_Set_Right.f k a0_0 l0_1).bind fun t105 => (if t105 = true then (if a0_0 = 2 then ((some (([70, 68, 83, 26] : List Int) : List Int)).bind fun y106 => (if y106.length < 140737488355328 then ((some (y106 ++ [((l0_1.length : Int)) % 256] : List Int)).bind fun y109 => (if 0 ≤ (wrap64 (16 - (y109.length : Int))) then (if y109.length + (wrap64 (16 - (y109.length : Int)) : Int).toNat < 140737488355328 then ((some (y109 ++ List.replicate (wrap64 (16 - (y109.length : Int)) : Int).toNat 0 : List Int)).bind fun y112 => ((slices_Concat_byte_byte.f l0_1).bind fun t115 => (if y112.length + t115.length < 140737488355328 then (some (y112 ++ t115)) else (none)))) else (none)) else (none))) else (none))) else ((slices_Concat_byte_byte.f l0_1).bind fun t121 => (if ([] : List Int).length + t121.length < 140737488355328 then (some (([] : List Int) ++ t121)) else (none)))) else (some ([] : List Int)))) = some r := h
 clear h
 replace H := Option.bind_eq_some_iff.mp H
 obtain ⟨t105, A20, H⟩ := H
 replace H : (if t105 = true then (if a0_0 = 2 then ((some (([70, 68, 83, 26] : List Int) : List Int)).bind fun y106 => (if y106.length < 140737488355328 then ((some (y106 ++ [((l0_1.length : Int)) % 256] : List Int)).bind fun y109 => (if 0 ≤ (wrap64 (16 - (y109.length : Int))) then (if y109.length + (wrap64 (16 - (y109.length : Int)) : Int).toNat < 140737488355328 then ((some (y109 ++ List.replicate (wrap64 (16 - (y109.length : Int)) : Int).toNat 0 : List Int)).bind fun y112 => ((slices_Concat_byte_byte.f l0_1).bind fun t115 => (if y112.length + t115.length < 140737488355328 then (some (y112 ++ t115)) else (none)))) else (none)) else (none))) else (none))) else ((slices_Concat_byte_byte.f l0_1).bind fun t121 => (if ([] : List Int).length + t121.length < 140737488355328 then (some (([] : List Int) ++ t121)) else (none)))) else (some ([] : List Int))) = some r := H
 have A2 := Aside0.mk A20
 clear A20
 by_cases c3 : t105 = true
 ·subst c3
  have H1 : (if a0_0 = 2 then ((some (([70, 68, 83, 26] : List Int) : List Int)).bind fun y106 => (if y106.length < 140737488355328 then ((some (y106 ++ [((l0_1.length : Int)) % 256] : List Int)).bind fun y109 => (if 0 ≤ (wrap64 (16 - (y109.length : Int))) then (if y109.length + (wrap64 (16 - (y109.length : Int)) : Int).toNat < 140737488355328 then ((some (y109 ++ List.replicate (wrap64 (16 - (y109.length : Int)) : Int).toNat 0 : List Int)).bind fun y112 => ((slices_Concat_byte_byte.f l0_1).bind fun t115 => (if y112.length + t115.length < 140737488355328 then (some (y112 ++ t115)) else (none)))) else (none)) else (none))) else (none))) else ((slices_Concat_byte_byte.f l0_1).bind fun t121 => (if ([] : List Int).length + t121.length < 140737488355328 then (some (([] : List Int) ++ t121)) else (none)))) = some r := by rw [if_pos rfl] at H; exact H
  clear H
  have H := H1
  clear H1
  by_cases c4 : a0_0 = 2
  ·rw [if_pos c4] at H
   have c4b0 : (a0_0 == 2) = true := beq_iff_eq.mpr c4
   have c4b1 : (a0_0 != 2) = false := bne_eq_false_iff_eq.mpr c4
   clear c4
   obtain ⟨y106, hy106⟩ : ∃ y_ : List Int, y_ = (([70, 68, 83, 26] : List Int)) := ⟨_, rfl⟩
   replace H : (if y106.length < 140737488355328 then ((some (y106 ++ [((l0_1.length : Int)) % 256] : List Int)).bind fun y109 => (if 0 ≤ (wrap64 (16 - (y109.length : Int))) then (if y109.length + (wrap64 (16 - (y109.length : Int)) : Int).toNat < 140737488355328 then ((some (y109 ++ List.replicate (wrap64 (16 - (y109.length : Int)) : Int).toNat 0 : List Int)).bind fun y112 => ((slices_Concat_byte_byte.f l0_1).bind fun t115 => (if y112.length + t115.length < 140737488355328 then (some (y112 ++ t115)) else (none)))) else (none)) else (none))) else (none)) = some r := by first | (rw [hy106]; with_reducible exact H) | (have H2_ := (Option.bind_some _ _).symm.trans H; rw [hy106]; with_reducible exact H2_) | (have H2_ := (Option.bind_some _ _).symm.trans H; with_reducible exact H2_) | with_reducible exact H | (rw [hy106]; exact H) | exact H
   have Ny106 := Aside0.mk hy106
   clear hy106
   by_cases c5 : y106.length < 140737488355328
   ·rw [if_pos c5] at H
    have LMc5 := Aside0.mk c5
    clear c5
    obtain ⟨y109, hy109⟩ : ∃ y_ : List Int, y_ = (y106 ++ [((l0_1.length : Int)) % 256]) := ⟨_, rfl⟩
    replace H : (if 0 ≤ (wrap64 (16 - (y109.length : Int))) then (if y109.length + (wrap64 (16 - (y109.length : Int)) : Int).toNat < 140737488355328 then ((some (y109 ++ List.replicate (wrap64 (16 - (y109.length : Int)) : Int).toNat 0 : List Int)).bind fun y112 => ((slices_Concat_byte_byte.f l0_1).bind fun t115 => (if y112.length + t115.length < 140737488355328 then (some (y112 ++ t115)) else (none)))) else (none)) else (none)) = some r := by first | (rw [hy109]; with_reducible exact H) | (have H2_ := (Option.bind_some _ _).symm.trans H; rw [hy109]; with_reducible exact H2_) | (have H2_ := (Option.bind_some _ _).symm.trans H; with_reducible exact H2_) | with_reducible exact H | (rw [hy109]; exact H) | exact H
    have Ny109 := Aside0.mk hy109
    clear hy109
    obtain ⟨ji6, hji6⟩ : ∃ j_ : Int, (wrap64 (16 - (y109.length : Int))) = j_ := ⟨_, rfl⟩
    replace H : (if 0 ≤ (ji6) then (if y109.length + (ji6 : Int).toNat < 140737488355328 then ((some (y109 ++ List.replicate (ji6 : Int).toNat 0 : List Int)).bind fun y112 => ((slices_Concat_byte_byte.f l0_1).bind fun t115 => (if y112.length + t115.length < 140737488355328 then (some (y112 ++ t115)) else (none)))) else (none)) else (none)) = some r := by first | (rw [hji6] at H; exact H) | (simp only [hji6] at H ⊢; exact H)
    (try rw [hji6] at A2)
    have hji6w : (IntKind.i64.wrap (16 - (y109.length : Int))) = ji6 := (i64_w _).trans hji6
    by_cases c7 : 0 ≤ (ji6)
    ·rw [if_pos c7] at H
     have c7b0 := eq_true c7
     have c7b1 : decide (0 ≤ (ji6)) = true := decide_eq_true c7
     clear c7
     by_cases c8 : y109.length + (ji6 : Int).toNat < 140737488355328
     ·rw [if_pos c8] at H
      have LMc8 := Aside0.mk c8
      clear c8
      obtain ⟨y112, hy112⟩ : ∃ y_ : List Int, y_ = (y109 ++ List.replicate (ji6 : Int).toNat 0) := ⟨_, rfl⟩
      replace H : ((slices_Concat_byte_byte.f l0_1).bind fun t115 => (if y112.length + t115.length < 140737488355328 then (some (y112 ++ t115)) else (none))) = some r := by first | (rw [hy112]; with_reducible exact H) | (have H2_ := (Option.bind_some _ _).symm.trans H; rw [hy112]; with_reducible exact H2_) | (have H2_ := (Option.bind_some _ _).symm.trans H; with_reducible exact H2_) | with_reducible exact H | (rw [hy112]; exact H) | exact H
      have Ny112 := Aside0.mk hy112
      clear hy112
      replace H := Option.bind_eq_some_iff.mp H
      obtain ⟨t115, A90, H⟩ := H
      replace H : (if y112.length + t115.length < 140737488355328 then (some (y112 ++ t115)) else (none)) = some r := H
      have A9 := Aside0.mk A90
      clear A90
      by_cases c10 : y112.length + t115.length < 140737488355328
      ·rw [if_pos c10] at H
       have LMc10 := Aside0.mk c10
       clear c10
       obtain ⟨y118, hy118⟩ : ∃ y_ : List Int, y_ = (y112 ++ t115) := ⟨_, rfl⟩
       replace H : (some y118) = some r := by first | (rw [hy118]; with_reducible exact H) | (have H2_ := (Option.bind_some _ _).symm.trans H; rw [hy118]; with_reducible exact H2_) | (have H2_ := (Option.bind_some _ _).symm.trans H; with_reducible exact H2_) | with_reducible exact H | (rw [hy118]; exact H) | exact H
       have Ny118 := Aside0.mk hy118
       clear hy118
       obtain rfl := Option.some.inj H
       go_enter Try.func15, Try.ntmps15
       go_wp2_with (first | ((with_reducible refine gate_dst (N := 1) rfl ?_); refine box_event ?hg (N := 1) ?hd (cs := #[.int .u8 a0_0, .slice A0_1 l0_1.length c0_1]) (t := 30) ?hr ?_; (case hd => rfl); (case hg => rfl); (case hr => first | (go_simp; done) | (go_simp; rfl)); intro gb104 hg w11 hbox hb; have n0_ := Aside0.mk (below_step (by repeat (first | (with_reducible first | exact HB.out | apply below_alloc | apply pw_below_drewN | apply below_drew1) | exact HB.out)) hb); have n1_ := Aside0.mk (hbox); have n2_ := Aside0.mk ((by rw [hg]; exact (below_size (by repeat (first | (with_reducible first | exact HB.out | apply below_alloc | apply pw_below_drewN | apply below_drew1) | exact HB.out))) : w.heap.size ≤ gb104)); have n3_ := Aside0.mk ((by rw [hg]; exact (below_size (by repeat (first | (with_reducible first | exact HB.out | apply below_alloc | apply pw_below_drewN | apply below_drew1) | exact HB.out))) : w.heap.size ≤ gb104)); clear HB; have HB := n0_; have BK104 := n1_; have GW104 := n2_; have GE104 := n3_; clear n0_ n1_ n2_ n3_; clear hb hbox hg; have hcz12_0 : w11.cell? ⟨gb104, 0, none⟩ = some (.int .u8 a0_0) := (blk_cell BK104.out 0).trans rfl; have hcz12_1 : w11.cell? ⟨gb104, 1, none⟩ = some (.slice A0_1 l0_1.length c0_1) := (blk_cell BK104.out 1).trans rfl; have hfz12_0 := blk_frozen BK104.out 0; have hfz12_1 := blk_frozen BK104.out 1) | ((with_reducible refine gate_callee (f := 16) rfl ?_); refine goesL_ (some 5) rfl rfl Try.func16 (by kernel_rfl) rfl #[.agg #[.int .u8 a0_0, .slice A0_1 l0_1.length c0_1]] rfl (by (try simp only [List.map_toArray, List.map_cons, List.map_nil]); first | done | rfl | (simp only [List.length_drop, List.length_take]; rfl)) ?_; (with_reducible refine (disk_Set_Right.calls k a0_0 _ _ l0_1 true _ ?side1 ?side2 A2.out).mono ?_); (case side1 => repeat (first | exact (Kd.C_below HR0_1.out HB.out) | (with_reducible refine Kd.C_alloc ?_ _) | (with_reducible refine Kd.C_drewN ?_ _) | (with_reducible refine Kd.C_drew ?_))); (case side2 => exact HC0_1.out); rintro e w13 ⟨rfl, hb⟩; refine ⟨_, rfl, ?_⟩; have n0_ := Aside0.mk (blk_below (g := gb104) (o := .cells #[.int .u8 a0_0, .slice A0_1 l0_1.length c0_1] 30 (0, 0)) (by (with_reducible repeat (first | refine blk_drewN ?_ _ | refine blk_drew ?_ | refine blk_alloc ?_ _)); exact BK104.out) hb); have n1_ := Aside0.mk (below_step (by repeat (first | (with_reducible first | exact HB.out | apply below_alloc | apply pw_below_drewN | apply below_drew1 | refine below_set ?_ GE104.out) | exact HB.out)) hb); clear BK104; clear HB; have BK104 := n0_; have HB := n1_; clear n0_ n1_; (try clear hb); (try clear hb2); (try clear hk); (try clear hi); have hcz14_0 : w13.cell? ⟨gb104, 0, none⟩ = some (.int .u8 a0_0) := (blk_cell BK104.out 0).trans rfl; have hcz14_1 : w13.cell? ⟨gb104, 1, none⟩ = some (.slice A0_1 l0_1.length c0_1) := (blk_cell BK104.out 1).trans rfl; have hfz14_0 := blk_frozen BK104.out 0; have hfz14_1 := blk_frozen BK104.out 1) | ((with_reducible refine gate_dst (N := 11) rfl ?_); refine Go.Proofs.Ythnfmoaiejaheaa.H.mark_lit _ 5 rfl (N := 11) rfl 22 _ rfl ([70, 68, 83, 26] : List Int) rfl Try.underlying22 Try.underlying5 (by decide) (Below.refl _ _) (Nat.le_refl _) ?_; intro gm107 w15 ho16 hb hg_ hge_; clear hg_ hge_; have n0_ := Aside0.mk ho16; have n1_ := Aside0.mk (blk_below (g := gb104) (o := .cells #[.int .u8 a0_0, .slice A0_1 l0_1.length c0_1] 30 (0, 0)) (by (with_reducible repeat (first | refine blk_drewN ?_ _ | refine blk_drew ?_ | refine blk_alloc ?_ _)); exact BK104.out) hb); have n2_ := Aside0.mk (below_step (by repeat (first | (with_reducible first | exact HB.out | apply below_alloc | apply pw_below_drewN | apply below_drew1 | refine below_set ?_ GE104.out) | exact HB.out)) hb); clear BK104; clear HB; have HO108 := n0_; have BK104 := n1_; have HB := n2_; clear n0_ n1_ n2_; clear hb ho16; have hcz17_0 : w15.cell? ⟨gb104, 0, none⟩ = some (.int .u8 a0_0) := (blk_cell BK104.out 0).trans rfl; have hcz17_1 : w15.cell? ⟨gb104, 1, none⟩ = some (.slice A0_1 l0_1.length c0_1) := (blk_cell BK104.out 1).trans rfl; have hfz17_0 := blk_frozen BK104.out 0; have hfz17_1 := blk_frozen BK104.out 1) | ((with_reducible refine gate_builtin (b := .append) (xs := #[.tmp 11, .tmp 16]) rfl ?_); at_builtin; refine Go.Proofs.Ythnfmoaiejaheaa.H.R_append_full (w0 := w) w.heap.size rfl (.tmp 11) (.tmp 16) 22 5 (.int .u8 0) 1 rfl Try.underlying22 info5 rfl ⟨gm107, 0, none⟩ ([70, 68, 83, 26] : List Int) (((l0_1.length : Int)) % 256) rfl rfl ?aO ?aB ?aS (by decide) (by decide) ?_; (case aB => exact (by repeat (first | (with_reducible first | exact HB.out | apply below_alloc | apply pw_below_drewN | apply below_drew1 | refine below_set ?_ GE104.out) | exact HB.out))); (case aO => repeat (first | exact (Kd.V_reads' HO108.out).2.2 | (with_reducible refine Kd.C_alloc ?_ _) | (with_reducible refine Kd.C_drewN ?_ _) | (with_reducible refine Kd.C_drew ?_))); (case aS => exact (below_size (by repeat (first | (with_reducible first | exact HB.out | apply below_alloc | apply pw_below_drewN | apply below_drew1 | refine below_set ?_ GE104.out) | exact HB.out)))); intro v110 w18 ho hb hg; rw [← Ny106.out, ← Ny109.out] at ho; have n0_ := Aside0.mk (blk_grown (g := gb104) (o := .cells #[.int .u8 a0_0, .slice A0_1 l0_1.length c0_1] 30 (0, 0)) (by (with_reducible repeat (first | refine blk_drewN ?_ _ | refine blk_drew ?_ | refine blk_alloc ?_ _)); exact BK104.out) hg (by simp)); have n1_ := Aside0.mk (hb); have n2_ := Aside0.mk (ho); clear BK104; clear HB; clear HO108; have BK104 := n0_; have HB := n1_; have HO111 := n2_; clear n0_ n1_ n2_; clear ho hb hg; obtain ⟨Ao19, co19, eo19⟩ := Kd.R_slice HO111.out; subst eo19) | (at_builtin; refine Kd.R_append_zeros (Kd.int .u8) (w0 := w) w.heap.size rfl (.tmp 18) (.tmp 21) 22 3 5 (.int .u8 0) 1 rfl Try.underlying22 Try.underlying3 info5 rfl (by decide) (by omega) (.slice Ao19 y109.length co19) y109 0 (ji6 : Int) (fun _ => True) rfl rfl rfl ?aF ?aO (of_decide_eq_true (by first | (with_reducible assumption) | assumption)) ?aB ?aS ?aL ?_; (case aB => exact (by repeat (first | (with_reducible first | exact HB.out | apply below_alloc | apply pw_below_drewN | apply below_drew1 | refine below_set ?_ GE104.out) | exact HB.out))); (case aF => exact (fun _ _ => trivial)); (case aO => exact (by (with_reducible repeat (first | apply Kd.R_alloc | apply Kd.R_drewN | apply Kd.R_drew)); exact HO111.out)); (case aS => exact (below_size (by repeat (first | (with_reducible first | exact HB.out | apply below_alloc | apply pw_below_drewN | apply below_drew1 | refine below_set ?_ GE104.out) | exact HB.out)))); (case aL => have := LMc8.out; omega); intro v113 w20 ho hb hg hat; (first | rw [← Ny112.out] at ho | (simp only [Int.reduceToNat] at ho; rw [← Ny112.out] at ho)); have n0_ := Aside0.mk (blk_grown (g := gb104) (o := .cells #[.int .u8 a0_0, .slice A0_1 l0_1.length c0_1] 30 (0, 0)) (by (with_reducible repeat (first | refine blk_drewN ?_ _ | refine blk_drew ?_ | refine blk_alloc ?_ _)); exact BK104.out) hg (Kd.R_ne HO111.out BK104.out (by decide))); have n1_ := Aside0.mk (hb); have n2_ := Aside0.mk (ho); clear BK104; clear HB; clear HO111; have BK104 := n0_; have HB := n1_; have HO114 := n2_; clear n0_ n1_ n2_; clear ho hb hg hat; have hcz21_0 : w20.cell? ⟨gb104, 0, none⟩ = some (.int .u8 a0_0) := (blk_cell BK104.out 0).trans rfl; have hcz21_1 : w20.cell? ⟨gb104, 1, none⟩ = some (.slice A0_1 l0_1.length c0_1) := (blk_cell BK104.out 1).trans rfl; have hfz21_0 := blk_frozen BK104.out 0; have hfz21_1 := blk_frozen BK104.out 1) | ((with_reducible refine gate_callee (f := 33) rfl ?_); refine goesL_ (some 26) rfl rfl Try.func33 (by kernel_rfl) rfl #[.slice A0_1 l0_1.length c0_1] rfl (by (try simp only [List.map_toArray, List.map_cons, List.map_nil]); first | done | rfl | (simp only [List.length_drop, List.length_take]; rfl)) ?_; (with_reducible refine (slices_Concat_byte_byte.calls _ _ l0_1 t115 _ ?side1 ?side2 A9.out).mono ?_); (case side1 => repeat (first | exact (Kd.C_below HR0_1.out HB.out) | (with_reducible refine Kd.C_alloc ?_ _) | (with_reducible refine Kd.C_drewN ?_ _) | (with_reducible refine Kd.C_drew ?_))); (case side2 => exact HC0_1.out); rintro e w22 ⟨v116, rfl, ho0, hb⟩; refine ⟨_, rfl, ?_⟩; have n0_ := Aside0.mk (Kd.R_elder' (by (with_reducible repeat (first | apply Kd.R_alloc | apply Kd.R_drewN | apply Kd.R_drew)); exact HO114.out) (Kd.R_base ho0) hb); have n1_ := Aside0.mk (Kd.R_lower (Kd.R_new' ho0 (Kd.R_lt (by (with_reducible repeat (first | apply Kd.R_alloc | apply Kd.R_drewN | apply Kd.R_drew)); exact HO114.out))) (below_size (by repeat (first | (with_reducible first | exact HB.out | apply below_alloc | apply pw_below_drewN | apply below_drew1 | refine below_set ?_ GE104.out) | exact HB.out)))); have n2_ := Aside0.mk (blk_below (g := gb104) (o := .cells #[.int .u8 a0_0, .slice A0_1 l0_1.length c0_1] 30 (0, 0)) (by (with_reducible repeat (first | refine blk_drewN ?_ _ | refine blk_drew ?_ | refine blk_alloc ?_ _)); exact BK104.out) hb); have n3_ := Aside0.mk (below_step (by repeat (first | (with_reducible first | exact HB.out | apply below_alloc | apply pw_below_drewN | apply below_drew1 | refine below_set ?_ GE104.out) | exact HB.out)) hb); clear HO114; clear BK104; clear HB; have HO114 := n0_; have HO117 := n1_; have BK104 := n2_; have HB := n3_; clear n0_ n1_ n2_ n3_; (try clear hb); (try clear hb2); (try clear hk); (try clear hi); (try clear ho0); obtain ⟨Ao24, co24, eo24⟩ := Kd.R_slice HO117.out; subst eo24) | ((with_reducible refine gate_builtin (b := .append) (xs := #[.tmp 23, .tmp 26]) rfl ?_); at_builtin; refine Kd.R_append_rows (Kd.int .u8) (w0 := w) w.heap.size rfl (.tmp 23) (.tmp 26) 22 5 (.int .u8 0) 1 rfl Try.underlying22 info5 rfl (by decide) (by omega) v113 y112 t115 _ _ _ (fun k_ => some k_ ≠ (.slice Ao24 t115.length co24 : Value).ownBlock) (fun _ => False) rfl rfl ?aO ?aR (fun _ _ h => h) (fun _ h => h.elim) ?aF ?aB ?aS ?aL ?_; (case aR => repeat (first | exact (Kd.R_reads' HO117.out).2.2 | (with_reducible refine Kd.C_alloc ?_ _) | (with_reducible refine Kd.C_drewN ?_ _) | (with_reducible refine Kd.C_drew ?_))); (case aB => exact (by repeat (first | (with_reducible first | exact HB.out | apply below_alloc | apply pw_below_drewN | apply below_drew1 | refine below_set ?_ GE104.out) | exact HB.out))); (case aF => exact (fun k_ hk => Kd.fresh' (Kd.R_lt (by (with_reducible repeat (first | apply Kd.R_alloc | apply Kd.R_drewN | apply Kd.R_drew)); exact HO117.out)) k_ hk)); (case aO => exact (by (with_reducible repeat (first | apply Kd.R_alloc | apply Kd.R_drewN | apply Kd.R_drew)); exact Kd.R_mono HO114.out (fun _ hk => hk.2))); (case aS => exact (below_size (by repeat (first | (with_reducible first | exact HB.out | apply below_alloc | apply pw_below_drewN | apply below_drew1 | refine below_set ?_ GE104.out) | exact HB.out)))); (case aL => have := LMc10.out; omega); intro v119 w23 ho hb hg hat; (first | rw [← Ny118.out] at ho | (simp only [Int.reduceToNat] at ho; rw [← Ny118.out] at ho)); have n0_ := Aside0.mk (blk_grown (g := gb104) (o := .cells #[.int .u8 a0_0, .slice A0_1 l0_1.length c0_1] 30 (0, 0)) (by (with_reducible repeat (first | refine blk_drewN ?_ _ | refine blk_drew ?_ | refine blk_alloc ?_ _)); exact BK104.out) hg (Kd.R_ne HO114.out BK104.out (by decide))); have n1_ := Aside0.mk (Kd.R_after (ok := (fun _ => True)) (by (with_reducible repeat (first | apply Kd.R_alloc | apply Kd.R_drewN | apply Kd.R_drew)); exact HO117.out) hg hat); have n2_ := Aside0.mk (hb); have n3_ := Aside0.mk (ho); clear BK104; clear HO117; clear HB; clear HO114; have BK104 := n0_; have HO117 := n1_; have HB := n2_; have HO120 := n3_; clear n0_ n1_ n2_ n3_; clear ho hb hg hat))
       go_ret
       exact ⟨_, by first | rfl | (simp [errW_none, errW_some] <;> rfl) | (simp only [← hji6]; first | rfl | (simp [errW_none, errW_some] <;> rfl)) | (simp [*, errW_none, errW_some] <;> rfl), by (with_reducible repeat (first | apply Kd.R_alloc | apply Kd.R_drewN | apply Kd.R_drew)); exact Kd.R_mono HO120.out (fun _ hk => trivial), by repeat (first | (with_reducible first | exact HB.out | apply below_alloc | apply pw_below_drewN | apply below_drew1 | refine below_set ?_ GE104.out) | exact HB.out)⟩
      ·rw [if_neg c10] at H
       exact absurd H (by simp)
     ·rw [if_neg c8] at H
      exact absurd H (by simp)
    ·rw [if_neg c7] at H
     exact absurd H (by simp)
   ·rw [if_neg c5] at H
    exact absurd H (by simp)
  ·rw [if_neg c4] at H
   have c4b0 : (a0_0 == 2) = false := beq_eq_false_iff_ne.mpr c4
   have c4b1 : (a0_0 != 2) = true := bne_iff_ne.mpr c4
   replace H := Option.bind_eq_some_iff.mp H
   obtain ⟨t121, A250, H⟩ := H
   replace H : (if ([] : List Int).length + t121.length < 140737488355328 then (some (([] : List Int) ++ t121)) else (none)) = some r := H
   have A25 := Aside0.mk A250
   clear A250
   by_cases c26 : ([] : List Int).length + t121.length < 140737488355328
   ·rw [if_pos c26] at H
    have LMc26 := Aside0.mk c26
    clear c26
    obtain ⟨y124, hy124⟩ : ∃ y_ : List Int, y_ = (([] : List Int) ++ t121) := ⟨_, rfl⟩
    replace H : (some y124) = some r := by first | (rw [hy124]; with_reducible exact H) | (have H2_ := (Option.bind_some _ _).symm.trans H; rw [hy124]; with_reducible exact H2_) | (have H2_ := (Option.bind_some _ _).symm.trans H; with_reducible exact H2_) | with_reducible exact H | (rw [hy124]; exact H) | exact H
    have Ny124 := Aside0.mk hy124
    clear hy124
    obtain rfl := Option.some.inj H
    go_enter Try.func15, Try.ntmps15
    go_wp2_with (first | ((with_reducible refine gate_dst (N := 1) rfl ?_); refine box_event ?hg (N := 1) ?hd (cs := #[.int .u8 a0_0, .slice A0_1 l0_1.length c0_1]) (t := 30) ?hr ?_; (case hd => rfl); (case hg => rfl); (case hr => first | (go_simp; done) | (go_simp; rfl)); intro gb104 hg w27 hbox hb; have n0_ := Aside0.mk (below_step (by repeat (first | (with_reducible first | exact HB.out | apply below_alloc | apply pw_below_drewN | apply below_drew1) | exact HB.out)) hb); have n1_ := Aside0.mk (hbox); have n2_ := Aside0.mk ((by rw [hg]; exact (below_size (by repeat (first | (with_reducible first | exact HB.out | apply below_alloc | apply pw_below_drewN | apply below_drew1) | exact HB.out))) : w.heap.size ≤ gb104)); have n3_ := Aside0.mk ((by rw [hg]; exact (below_size (by repeat (first | (with_reducible first | exact HB.out | apply below_alloc | apply pw_below_drewN | apply below_drew1) | exact HB.out))) : w.heap.size ≤ gb104)); clear HB; have HB := n0_; have BK104 := n1_; have GW104 := n2_; have GE104 := n3_; clear n0_ n1_ n2_ n3_; clear hb hbox hg; have hcz28_0 : w27.cell? ⟨gb104, 0, none⟩ = some (.int .u8 a0_0) := (blk_cell BK104.out 0).trans rfl; have hcz28_1 : w27.cell? ⟨gb104, 1, none⟩ = some (.slice A0_1 l0_1.length c0_1) := (blk_cell BK104.out 1).trans rfl; have hfz28_0 := blk_frozen BK104.out 0; have hfz28_1 := blk_frozen BK104.out 1) | ((with_reducible refine gate_callee (f := 16) rfl ?_); refine goesL_ (some 5) rfl rfl Try.func16 (by kernel_rfl) rfl #[.agg #[.int .u8 a0_0, .slice A0_1 l0_1.length c0_1]] rfl (by (try simp only [List.map_toArray, List.map_cons, List.map_nil]); first | done | rfl | (simp only [List.length_drop, List.length_take]; rfl)) ?_; (with_reducible refine (disk_Set_Right.calls k a0_0 _ _ l0_1 true _ ?side1 ?side2 A2.out).mono ?_); (case side1 => repeat (first | exact (Kd.C_below HR0_1.out HB.out) | (with_reducible refine Kd.C_alloc ?_ _) | (with_reducible refine Kd.C_drewN ?_ _) | (with_reducible refine Kd.C_drew ?_))); (case side2 => exact HC0_1.out); rintro e w29 ⟨rfl, hb⟩; refine ⟨_, rfl, ?_⟩; have n0_ := Aside0.mk (blk_below (g := gb104) (o := .cells #[.int .u8 a0_0, .slice A0_1 l0_1.length c0_1] 30 (0, 0)) (by (with_reducible repeat (first | refine blk_drewN ?_ _ | refine blk_drew ?_ | refine blk_alloc ?_ _)); exact BK104.out) hb); have n1_ := Aside0.mk (below_step (by repeat (first | (with_reducible first | exact HB.out | apply below_alloc | apply pw_below_drewN | apply below_drew1 | refine below_set ?_ GE104.out) | exact HB.out)) hb); clear BK104; clear HB; have BK104 := n0_; have HB := n1_; clear n0_ n1_; (try clear hb); (try clear hb2); (try clear hk); (try clear hi); have hcz30_0 : w29.cell? ⟨gb104, 0, none⟩ = some (.int .u8 a0_0) := (blk_cell BK104.out 0).trans rfl; have hcz30_1 : w29.cell? ⟨gb104, 1, none⟩ = some (.slice A0_1 l0_1.length c0_1) := (blk_cell BK104.out 1).trans rfl; have hfz30_0 := blk_frozen BK104.out 0; have hfz30_1 := blk_frozen BK104.out 1) | ((with_reducible refine gate_callee (f := 33) rfl ?_); refine goesL_ (some 26) rfl rfl Try.func33 (by kernel_rfl) rfl #[.slice A0_1 l0_1.length c0_1] rfl (by (try simp only [List.map_toArray, List.map_cons, List.map_nil]); first | done | rfl | (simp only [List.length_drop, List.length_take]; rfl)) ?_; (with_reducible refine (slices_Concat_byte_byte.calls _ _ l0_1 t121 _ ?side1 ?side2 A25.out).mono ?_); (case side1 => repeat (first | exact (Kd.C_below HR0_1.out HB.out) | (with_reducible refine Kd.C_alloc ?_ _) | (with_reducible refine Kd.C_drewN ?_ _) | (with_reducible refine Kd.C_drew ?_))); (case side2 => exact HC0_1.out); rintro e w31 ⟨v122, rfl, ho0, hb⟩; refine ⟨_, rfl, ?_⟩; have n0_ := Aside0.mk (Kd.R_lower ho0 (below_size (by repeat (first | (with_reducible first | exact HB.out | apply below_alloc | apply pw_below_drewN | apply below_drew1 | refine below_set ?_ GE104.out) | exact HB.out)))); have n1_ := Aside0.mk (blk_below (g := gb104) (o := .cells #[.int .u8 a0_0, .slice A0_1 l0_1.length c0_1] 30 (0, 0)) (by (with_reducible repeat (first | refine blk_drewN ?_ _ | refine blk_drew ?_ | refine blk_alloc ?_ _)); exact BK104.out) hb); have n2_ := Aside0.mk (below_step (by repeat (first | (with_reducible first | exact HB.out | apply below_alloc | apply pw_below_drewN | apply below_drew1 | refine below_set ?_ GE104.out) | exact HB.out)) hb); clear BK104; clear HB; have HO123 := n0_; have BK104 := n1_; have HB := n2_; clear n0_ n1_ n2_; (try clear hb); (try clear hb2); (try clear hk); (try clear hi); (try clear ho0); obtain ⟨Ao33, co33, eo33⟩ := Kd.R_slice HO123.out; subst eo33) | ((with_reducible refine gate_builtin (b := .append) (xs := #[.tmp 23, .tmp 26]) rfl ?_); at_builtin; refine Kd.R_append_rows (Kd.int .u8) (w0 := w) w.heap.size rfl (.tmp 23) (.tmp 26) 22 5 (.int .u8 0) 1 rfl Try.underlying22 info5 rfl (by decide) (by omega) (.slice none 0 0) ([] : List Int) t121 _ _ _ (fun k_ => some k_ ≠ (.slice Ao33 t121.length co33 : Value).ownBlock) (fun _ => False) rfl rfl ?aO ?aR (fun _ _ h => h) (fun _ h => h.elim) ?aF ?aB ?aS ?aL ?_; (case aR => repeat (first | exact (Kd.R_reads' HO123.out).2.2 | (with_reducible refine Kd.C_alloc ?_ _) | (with_reducible refine Kd.C_drewN ?_ _) | (with_reducible refine Kd.C_drew ?_))); (case aB => exact (by repeat (first | (with_reducible first | exact HB.out | apply below_alloc | apply pw_below_drewN | apply below_drew1 | refine below_set ?_ GE104.out) | exact HB.out))); (case aF => exact (fun k_ hk => Kd.fresh' (Kd.R_lt (by (with_reducible repeat (first | apply Kd.R_alloc | apply Kd.R_drewN | apply Kd.R_drew)); exact HO123.out)) k_ hk)); (case aO => exact ((Kd.R_nil _ _ _ _ (fun k_ => some k_ ≠ (.slice Ao33 t121.length co33 : Value).ownBlock)))); (case aS => exact (below_size (by repeat (first | (with_reducible first | exact HB.out | apply below_alloc | apply pw_below_drewN | apply below_drew1 | refine below_set ?_ GE104.out) | exact HB.out)))); (case aL => have := LMc26.out; omega); intro v125 w32 ho hb hg hat; (first | rw [← Ny124.out] at ho | (simp only [Int.reduceToNat] at ho; rw [← Ny124.out] at ho)); have n0_ := Aside0.mk (blk_grown (g := gb104) (o := .cells #[.int .u8 a0_0, .slice A0_1 l0_1.length c0_1] 30 (0, 0)) (by (with_reducible repeat (first | refine blk_drewN ?_ _ | refine blk_drew ?_ | refine blk_alloc ?_ _)); exact BK104.out) hg (by simp [Value.ownBlock])); have n1_ := Aside0.mk (Kd.R_after (Kd.R_apart_nil (by (with_reducible repeat (first | apply Kd.R_alloc | apply Kd.R_drewN | apply Kd.R_drew)); exact HO123.out)) hg hat); have n2_ := Aside0.mk (hb); have n3_ := Aside0.mk (ho); clear BK104; clear HO123; clear HB; have BK104 := n0_; have HO123 := n1_; have HB := n2_; have HO126 := n3_; clear n0_ n1_ n2_ n3_; clear ho hb hg hat))
    go_ret
    exact ⟨_, by first | rfl | (simp [errW_none, errW_some] <;> rfl) | (simp [*, errW_none, errW_some] <;> rfl), by (with_reducible repeat (first | apply Kd.R_alloc | apply Kd.R_drewN | apply Kd.R_drew)); exact Kd.R_mono HO126.out (fun _ hk => trivial), by repeat (first | (with_reducible first | exact HB.out | apply below_alloc | apply pw_below_drewN | apply below_drew1 | refine below_set ?_ GE104.out) | exact HB.out)⟩
   ·rw [if_neg c26] at H
    exact absurd H (by simp)
 ·replace c3 := Bool.eq_false_iff.mpr c3
  subst c3
  have H1 : (some ([] : List Int)) = some r := by rw [if_neg (show ¬ (false = true) by decide)] at H; exact H
  clear H
  have H := H1
  clear H1
  obtain rfl := Option.some.inj H
  go_enter Try.func15, Try.ntmps15
  go_wp2_with (first | ((with_reducible refine gate_dst (N := 1) rfl ?_); refine box_event ?hg (N := 1) ?hd (cs := #[.int .u8 a0_0, .slice A0_1 l0_1.length c0_1]) (t := 30) ?hr ?_; (case hd => rfl); (case hg => rfl); (case hr => first | (go_simp; done) | (go_simp; rfl)); intro gb104 hg w34 hbox hb; have n0_ := Aside0.mk (below_step (by repeat (first | (with_reducible first | exact HB.out | apply below_alloc | apply pw_below_drewN | apply below_drew1) | exact HB.out)) hb); have n1_ := Aside0.mk (hbox); have n2_ := Aside0.mk ((by rw [hg]; exact (below_size (by repeat (first | (with_reducible first | exact HB.out | apply below_alloc | apply pw_below_drewN | apply below_drew1) | exact HB.out))) : w.heap.size ≤ gb104)); have n3_ := Aside0.mk ((by rw [hg]; exact (below_size (by repeat (first | (with_reducible first | exact HB.out | apply below_alloc | apply pw_below_drewN | apply below_drew1) | exact HB.out))) : w.heap.size ≤ gb104)); clear HB; have HB := n0_; have BK104 := n1_; have GW104 := n2_; have GE104 := n3_; clear n0_ n1_ n2_ n3_; clear hb hbox hg; have hcz35_0 : w34.cell? ⟨gb104, 0, none⟩ = some (.int .u8 a0_0) := (blk_cell BK104.out 0).trans rfl; have hcz35_1 : w34.cell? ⟨gb104, 1, none⟩ = some (.slice A0_1 l0_1.length c0_1) := (blk_cell BK104.out 1).trans rfl; have hfz35_0 := blk_frozen BK104.out 0; have hfz35_1 := blk_frozen BK104.out 1) | ((with_reducible refine gate_callee (f := 16) rfl ?_); refine goesL_ (some 5) rfl rfl Try.func16 (by kernel_rfl) rfl #[.agg #[.int .u8 a0_0, .slice A0_1 l0_1.length c0_1]] rfl (by (try simp only [List.map_toArray, List.map_cons, List.map_nil]); first | done | rfl | (simp only [List.length_drop, List.length_take]; rfl)) ?_; (with_reducible refine (disk_Set_Right.calls k a0_0 _ _ l0_1 false _ ?side1 ?side2 A2.out).mono ?_); (case side1 => repeat (first | exact (Kd.C_below HR0_1.out HB.out) | (with_reducible refine Kd.C_alloc ?_ _) | (with_reducible refine Kd.C_drewN ?_ _) | (with_reducible refine Kd.C_drew ?_))); (case side2 => exact HC0_1.out); rintro e w36 ⟨rfl, hb⟩; refine ⟨_, rfl, ?_⟩; have n0_ := Aside0.mk (blk_below (g := gb104) (o := .cells #[.int .u8 a0_0, .slice A0_1 l0_1.length c0_1] 30 (0, 0)) (by (with_reducible repeat (first | refine blk_drewN ?_ _ | refine blk_drew ?_ | refine blk_alloc ?_ _)); exact BK104.out) hb); have n1_ := Aside0.mk (below_step (by repeat (first | (with_reducible first | exact HB.out | apply below_alloc | apply pw_below_drewN | apply below_drew1 | refine below_set ?_ GE104.out) | exact HB.out)) hb); clear BK104; clear HB; have BK104 := n0_; have HB := n1_; clear n0_ n1_; (try clear hb); (try clear hb2); (try clear hk); (try clear hi)))
  go_ret
  exact ⟨_, by first | rfl | (simp [errW_none, errW_some] <;> rfl) | (simp [*, errW_none, errW_some] <;> rfl), by first | exact Kd.R_nil _ _ _ _ _ | exact Kd.N_nil _ _ _ _ _ | exact Kd.V_nil _ _ _ _ _ | exact Kd.Q_nil _ _ _ _ _ | exact Kd.S_nil _ _ _ _ _, by repeat (first | (with_reducible first | exact HB.out | apply below_alloc | apply pw_below_drewN | apply below_drew1 | refine below_set ?_ GE104.out) | exact HB.out)⟩

/-! ### bytes_Equal: function 32 -/
def bytes_Equal.f (l0 : List Int) (l1 : List Int) : Option (Bool) := some ((strOfNums l0).toList == (strOfNums l1).toList)
set_option maxHeartbeats 8000000 in
set_option maxRecDepth 100000 in
theorem bytes_Equal.calls (A0 : Option Addr) (c0 : Nat) (l0 : List Int) (A1 : Option Addr) (c1 : Nat) (l1 : List Int) (r : Bool) (w : World) (hr0 : Kd.C (Kd.int .u8) w A0 l0.length l0) (hc0 : l0.length ≤ c0) (hr1 : Kd.C (Kd.int .u8) w A1 l1.length l1) (hc1 : l1.length ≤ c1) (h : bytes_Equal.f l0 l1 = some r) :
  Calls Try.prog 32 #[.slice A0 l0.length c0, .slice A1 l1.length c1] w fun e w' => e = .returned (.bool r) ∧ Drawn0 w w' := by
 have HR0 := Aside0.mk hr0
 have HC0 := Aside0.mk hc0
 clear hr0 hc0
 have HR1 := Aside0.mk hr1
 have HC1 := Aside0.mk hc1
 clear hr1 hc1
 have H : (some ((strOfNums l0).toList == (strOfNums l1).toList)) = some r := h
 clear h
 obtain rfl := Option.some.inj H
 have hcv3 := Kd.C_string (P := Try.prog) (A := A0) (c := c0) Try.underlying22 Try.underlying5 Try.underlying9 HR0.out
 have hcv4 := Kd.C_string (P := Try.prog) (A := A1) (c := c1) Try.underlying22 Try.underlying5 Try.underlying9 HR1.out
 go_enter Try.func32, Try.ntmps32
 go_wp2
 go_ret
 exact ⟨by first | rfl | (simp; done) | (simp [*]; done), by repeat (first | exact Drawn0.refl _ | apply Drawn0.step)⟩

/-! ### bytes_HasPrefix: function 30 -/
def bytes_HasPrefix.f (l0 : List Int) (l1 : List Int) : Option (Bool) := if (l0.length : Int) ≥ (l1.length : Int) then (if 0 ≤ (l1.length : Int) then (if (l1.length : Int) ≤ (l0.length : Int) then ((bytes_Equal.f (l0.take ((l1.length : Int) : Int).toNat) l1).bind fun t105 => (some t105)) else (none)) else (none)) else (some false)
set_option maxHeartbeats 8000000 in
set_option maxRecDepth 100000 in
theorem bytes_HasPrefix.calls (A0 : Option Addr) (c0 : Nat) (l0 : List Int) (A1 : Option Addr) (c1 : Nat) (l1 : List Int) (r : Bool) (w : World) (hr0 : Kd.C (Kd.int .u8) w A0 l0.length l0) (hc0 : l0.length ≤ c0) (hr1 : Kd.C (Kd.int .u8) w A1 l1.length l1) (hc1 : l1.length ≤ c1) (h : bytes_HasPrefix.f l0 l1 = some r) :
  Calls Try.prog 30 #[.slice A0 l0.length c0, .slice A1 l1.length c1] w fun e w' => e = .returned (.bool r) ∧ Drawn0 w w' := by
 have HR0 := Aside0.mk hr0
 have HC0 := Aside0.mk hc0
 clear hr0 hc0
 have HR1 := Aside0.mk hr1
 have HC1 := Aside0.mk hc1
 clear hr1 hc1
 have H : (if (l0.length : Int) ≥ (l1.length : Int) then (if 0 ≤ (l1.length : Int) then (if (l1.length : Int) ≤ (l0.length : Int) then ((bytes_Equal.f (l0.take ((l1.length : Int) : Int).toNat) l1).bind fun t105 => (some t105)) else (none)) else (none)) else (some false)) = some r := h
 clear h
 by_cases c3 : (l0.length : Int) ≥ (l1.length : Int)
 ·rw [if_pos c3] at H
  have c3b0 : decide ((l1.length : Int) ≤ (l0.length : Int)) = true := decide_eq_true c3
  have c3b1 : decide (l1.length ≤ l0.length) = true := decide_eq_true (Int.ofNat_le.mp c3)
  clear c3
  by_cases c4 : 0 ≤ (l1.length : Int)
  ·rw [if_pos c4] at H
   have c4b0 := eq_true c4
   have c4b1 : decide (0 ≤ (l1.length : Int)) = true := decide_eq_true c4
   clear c4
   by_cases c5 : (l1.length : Int) ≤ (l0.length : Int)
   ·rw [if_pos c5] at H
    have c5b0 := eq_true c5
    have c5b1 : decide ((l1.length : Int) ≤ (l0.length : Int)) = true := decide_eq_true c5
    clear c5
    replace H := Option.bind_eq_some_iff.mp H
    obtain ⟨t105, A60, H⟩ := H
    replace H : (some t105) = some r := H
    have A6 := Aside0.mk A60
    clear A60
    obtain rfl := Option.some.inj H
    obtain ⟨i07, hi07, _, hsz7, _⟩ := info_parts info5
    obtain ⟨hcut7, hA7, hC7⟩ := print_take_of (P := Try.prog) (Value.int .u8) 0 22 5 .i64 Try.underlying22 hi07 hsz7 A0 c0 l0 (l1.length : Int) (of_decide_eq_true (by first | (with_reducible assumption) | assumption)) (of_decide_eq_true (by first | (with_reducible assumption) | assumption)) HC0.out
    have HR104 := Aside0.mk (Kd.C_of_reads (h1 := fun _ => rfl) (hA7 _ (Kd.reads_of_C HR0.out)))
    have HC104 := Aside0.mk hC7
    clear hA7 hC7 hi07 hsz7
    go_enter Try.func30, Try.ntmps30
    go_wp2_with (first | (go_at_call 32; (try rw [show min l1.length l0.length = (l0.take ((l1.length : Int) : Int).toNat).length from by rw [List.length_take, Int.toNat_natCast]]); (with_reducible refine (bytes_Equal.calls _ _ (l0.take ((l1.length : Int) : Int).toNat) _ _ l1 t105 _ ?side1 ?side2 ?side3 ?side4 A6.out).mono ?_); (case side1 => repeat (first | exact HR104.out | (with_reducible refine Kd.C_alloc ?_ _) | (with_reducible refine Kd.C_drewN ?_ _) | (with_reducible refine Kd.C_drew ?_))); (case side2 => exact HC104.out); (case side3 => repeat (first | exact HR1.out | (with_reducible refine Kd.C_alloc ?_ _) | (with_reducible refine Kd.C_drewN ?_ _) | (with_reducible refine Kd.C_drew ?_))); (case side4 => exact HC1.out); rintro e w' ⟨rfl, ⟨nd, rfl⟩⟩))
    go_ret
    exact ⟨by first | rfl | (simp; done) | (simp [*]; done), by repeat (first | exact Drawn0.refl _ | apply Drawn0.step)⟩
   ·rw [if_neg c5] at H
    exact absurd H (by simp)
  ·rw [if_neg c4] at H
   exact absurd H (by simp)
 ·rw [if_neg c3] at H
  have c3b0 : decide ((l1.length : Int) ≤ (l0.length : Int)) = false := decide_eq_false c3
  have c3b1 : decide (l1.length ≤ l0.length) = false := decide_eq_false (fun h => c3 (Int.ofNat_le.mpr h))
  clear c3
  obtain rfl := Option.some.inj H
  go_enter Try.func30, Try.ntmps30
  go_wp2
  go_ret
  exact ⟨by first | rfl | (simp; done) | (simp [*]; done), by repeat (first | exact Drawn0.refl _ | apply Drawn0.step)⟩

/-! ### bytes_Clone: function 41, by hand -/
def bytes_Clone.f (l0 : List Int) : Option (List Int) := if l0.length ≤ 140737488355328 then some l0 else none
theorem bytes_Clone.calls (A0 : Option Addr) (c0 : Nat) (l0 : List Int) (r : List Int) (w : World) (hr0 : Kd.C (Kd.int .u8) w A0 l0.length l0) (hc0 : l0.length ≤ c0) (h : bytes_Clone.f l0 = some r) :
  Calls Try.prog 41 #[.slice A0 l0.length c0] w fun e w' => ∃ v0_ : Value, e = .returned (v0_) ∧ Kd.V (Kd.int .u8) 5 w' w.heap.size (fun k_ => (w.heap.size ≤ k_)) v0_ r ∧ Below w.heap.size w w' := by
 unfold bytes_Clone.f at h
 by_cases hl : l0.length ≤ 140737488355328
 ·rw [if_pos hl] at h
  obtain rfl := Option.some.inj h
  cases A0 with
  | none =>
   have h0 : l0 = [] := by
    rcases Nat.eq_zero_or_pos l0.length with hz | hp
    ·exact List.length_eq_zero_iff.1 hz
    ·obtain ⟨ad, he, _⟩ := Kd.at_int hr0 0 (by omega) (by omega)
     cases he
   subst h0
   refine (Try.bytes_Clone_nil _ c0 w).mono ?_
   rintro e w' ⟨rfl, rfl⟩
   exact ⟨_, rfl, Kd.V_nil _ _ _ _ _, Below.refl _ _⟩
  | some a =>
   refine (Try.bytes_Clone_at a l0.length c0 l0 w rfl hl ?_).mono ?_
   ·intro i hi
    obtain ⟨ad, he, hc⟩ := Kd.at_int hr0 (i : Int) (by omega) (by omega)
    cases he
    exact hc
   ·rintro e w' ⟨v', rfl, hown, _, hb⟩
    exact ⟨v', rfl, Kd.V_mono (Kd.N_V (Kd.R_N (Kd.R_bound (Kd.R_of_own (enc := Value.int .u8) hown (fun _ _ => trivial))))) (fun _ hk => hk.2.1), hb⟩
 ·rw [if_neg hl] at h
  cases h

-- NOT PRINTED: function 51 (slices_Chunk_byte_byte)

end Go.Proofs.Ythnfmoaiejaheaa.PDiskRefuses
