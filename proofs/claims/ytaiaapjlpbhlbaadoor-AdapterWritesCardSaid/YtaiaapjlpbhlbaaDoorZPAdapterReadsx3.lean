-- made by a program of this repo (wip/patch_print.py); not trusted: Lean checks it
import Derived.Test.YtaiaapjlpbhlbaaDoorZPAdapterReadsx0
import Derived.Test.YtaiaapjlpbhlbaaDoorZPAdapterReadsx1
import Derived.Test.YtaiaapjlpbhlbaaDoorZPAdapterReadsx2
-- squeezed
namespace Go.Proofs.YtaiaapjlpbhlbaaDoor.PAdapterReads
open Go.RowKit Go.Proofs.YtaiaapjlpbhlbaaDoorW.PrintWords Go.Proofs.YtaiaapjlpbhlbaaDoorW.PrintLast Go.Proofs.YtaiaapjlpbhlbaaDoorW.PrintMore
attribute [local go_sem] max2_int min2_int max_two min_two max_three min_three max_four min_four   -- for this text's walks alone
set_option linter.unusedVariables false
set_option linter.unusedSimpArgs false

/-! ### block_Right: function 93 -/
def block_Right.l0 : Nat → List Int → List (S67) → Int → Int → Option (Bool)
 | 0, _, _, _, _ => none
 | k + 1, x3, x8, x9, x10 => if x10 < x9 then (if 0 ≤ x10 then (if x10 < (x8.length : Int) then ((block_expects.f x10 x3).bind fun bt113 => (if ((rd_T67 x8 x10).f0) = bt113.1 then (if (((rd_T67 x8 x10).f1).length : Int) = bt113.2 then (if bt113.1 = 0 then (some false) else (block_Right.l0 k ((rd_T67 x8 x10).f1) x8 x9 (wrap64 (x10 + 1)))) else (some false)) else (some false))) else (none)) else (none)) else (some true)
def block_Right.f (k : Nat) (l0 : List (S67)) : Option (Bool) := block_Right.l0 k ([] : List Int) l0 (l0.length : Int) 0
set_option maxHeartbeats 8000000 in
set_option maxRecDepth 100000 in
theorem block_Right.calls (k : Nat) (P0_ : Nat → Prop) (A0 : Option Addr) (c0 : Nat) (l0 : List (S67)) (r : Bool) (w : World) (hs0 : Kd.V k67 67 w w.heap.size (fun k_ => P0_ k_) (.slice A0 l0.length c0) l0) (h : block_Right.f k l0 = some r) :
  Calls Tryd.prog 93 #[.slice A0 l0.length c0] w fun e w' => e = .returned (.bool r) ∧ Below w.heap.size w w' := by
 have hu67 := Tryd.underlying67
 have HO0 := Aside0.mk (show Kd.V k67 67 w w.heap.size (fun k_ => (P0_ k_ ∨ w.heap.size ≤ k_)) (.slice A0 l0.length c0) l0 from Kd.V_mono hs0 (fun k_ hk => .inl hk))
 have HB := Aside0.mk (Below.refl w.heap.size w)
 have H : (block_Right.l0 k ([] : List Int) l0 (l0.length : Int) 0) = some r := h
 clear h
 have H' := Aside0.mk H
 clear H
 go_enter Tryd.func93, Tryd.ntmps93
 go_wp2
 go_loopg [3, 10] k (fun kq v3 v10 w' => ∃ (x3_1 : List Int) (x10_1 : Int), v10 = .int .i64 x10_1 ∧ Aside0 (block_Right.l0 kq x3_1 l0 (l0.length : Int) x10_1 = some r) ∧ Aside0 (kq ≤ k) ∧ Aside0 (Kd.V (Kd.int .u8) 5 w' w.heap.size (fun k_ => (P0_ k_ ∨ w.heap.size ≤ k_)) v3 x3_1) ∧ Aside0 (Kd.V k67 67 w' w.heap.size (fun k_ => (P0_ k_ ∨ w.heap.size ≤ k_)) (.slice A0 l0.length c0) l0) ∧ Aside0 (Below w.heap.size w w'))
 case atStart => exact ⟨(([] : List Int)), (0), (by first | rfl | (simp; done) | (simp [*]; done)), H', ⟨Nat.le_refl _⟩, ⟨Kd.V_nil _ _ _ _ _⟩, ⟨by (with_reducible repeat (first | apply Kd.V_alloc | apply Kd.V_drewN | apply Kd.V_drew)); exact HO0.out⟩, ⟨by repeat (first | (with_reducible first | exact HB.out | apply below_alloc | apply pw_below_drewN | apply below_drew1) | exact HB.out)⟩⟩
 case round =>
  clear H'
  obtain ⟨x3_1, x10_1, rfl, HA, HK1, HO_3, HO_8, HB⟩ := hrel
  cases gk with
  | zero => exact absurd HA.out (by simp [block_Right.l0])
  | succ k1 =>
   have H := HA.out
   clear HA
   simp only [block_Right.l0] at H
   by_cases c2 : x10_1 < (l0.length : Int)
   ·rw [if_pos c2] at H
    have c2b0 : decide (x10_1 < (l0.length : Int)) = true := decide_eq_true c2
    clear c2
    by_cases c3 : 0 ≤ x10_1
    ·rw [if_pos c3] at H
     have c3b0 : decide (0 ≤ x10_1) = true := decide_eq_true c3
     clear c3
     by_cases c4 : x10_1 < (l0.length : Int)
     ·rw [if_pos c4] at H
      have c4b0 : decide (x10_1 < (l0.length : Int)) = true := decide_eq_true c4
      clear c4
      replace H := Option.bind_eq_some_iff.mp H
      obtain ⟨⟨t113, t114⟩, A50, H⟩ := H
      replace H : (if ((rd_T67 l0 x10_1).f0) = t113 then (if (((rd_T67 l0 x10_1).f1).length : Int) = t114 then (if t113 = 0 then (some false) else (block_Right.l0 k1 ((rd_T67 l0 x10_1).f1) l0 (l0.length : Int) (wrap64 (x10_1 + 1)))) else (some false)) else (some false)) = some r := H
      have A5 := Aside0.mk A50
      clear A50
      by_cases c6 : ((rd_T67 l0 x10_1).f0) = t113
      ·rw [if_pos c6] at H
       have c6b0 : (((rd_T67 l0 x10_1).f0) == t113) = true := beq_iff_eq.mpr c6
       have c6b1 : (((rd_T67 l0 x10_1).f0) != t113) = false := bne_eq_false_iff_eq.mpr c6
       clear c6
       by_cases c7 : (((rd_T67 l0 x10_1).f1).length : Int) = t114
       ·rw [if_pos c7] at H
        have c7b0 : ((((rd_T67 l0 x10_1).f1).length : Int) == t114) = true := beq_iff_eq.mpr c7
        have c7b1 : ((((rd_T67 l0 x10_1).f1).length : Int) != t114) = false := bne_eq_false_iff_eq.mpr c7
        clear c7
        by_cases c8 : t113 = 0
        ·rw [if_pos c8] at H
         have c8b0 : (t113 == 0) = true := beq_iff_eq.mpr c8
         have c8b1 : (t113 != 0) = false := bne_eq_false_iff_eq.mpr c8
         clear c8
         obtain rfl := Option.some.inj H
         have p111 : 0 ≤ (x10_1 : Int) := of_decide_eq_true (by first | (with_reducible assumption) | assumption)
         have q111 : x10_1 < (l0.length : Int) := of_decide_eq_true (by first | (with_reducible assumption) | assumption)
         obtain ⟨ad111, A111_1, c111_1, e111, hx111_0, hx111_1, hl111_1, hi111_1⟩ := at_T67 (Kd.V_reads' HO_8.out).2.2 x10_1 p111 q111
         cases e111
         obtain ⟨ce111, hce111, hMe111, hcc111⟩ := Kd.V_get HO_8.out z67 x10_1 p111 (by first | exact q111 | exact of_decide_eq_true (by first | (with_reducible assumption) | assumption) | (have e_ := (Kd.V_reads' HO_8.out).1; omega))
         obtain ⟨ua111_1, uc111_1, rfl, ul111_1, ge111_1⟩ := k67_openF hMe111
         have hv111_1 := hcc111 1 _ rfl
         rw [add_field _ _ 1 (by omega)] at hv111_1
         replace hv111_1 := Option.some.inj (hv111_1.symm.trans hx111_1)
         injection hv111_1 with hva_ hvn_ hvc_
         rw [hva_] at ge111_1
         rw [hvc_] at ul111_1
         have HL111_1 := Aside0.mk (show Kd.V (Kd.int .u8) 5 _ w.heap.size _ _ ((rd_T67 l0 x10_1).f1) from Kd.V_mk ul111_1 ge111_1)
         clear hva_ hvn_ hvc_ ge111_1 ul111_1
         clear hcc111 hce111
         have HR111_1 := Aside0.mk hi111_1
         have HC111_1 := Aside0.mk hl111_1
         clear hi111_1 hl111_1
         replace p111 := eq_true p111
         replace q111 := eq_true q111
         go_wp2_with (first | ((with_reducible refine gate_dst (N := 5) rfl ?_); (try (refine gate_guard (by rfl) ?_; dsimp only)); refine box_event ?hg (N := 5) ?hd (cs := #[.int .u8 0, .slice none 0 0]) (t := 67) ?hr ?_; (case hd => rfl); (case hg => rfl); (case hr => first | (go_simp; done) | (go_simp; rfl)); intro gb112 hg w9 hbox hb; have n0_ := Aside0.mk (Kd.V_below (Kd.V_elderB (by (with_reducible repeat (first | apply Kd.V_alloc | apply Kd.V_drewN | apply Kd.V_drew)); exact HO_3.out) gb112 (Nat.le_of_eq hg.symm)) hb); have n1_ := Aside0.mk (Kd.V_below (Kd.V_elderB (by (with_reducible repeat (first | apply Kd.V_alloc | apply Kd.V_drewN | apply Kd.V_drew)); exact HO_8.out) gb112 (Nat.le_of_eq hg.symm)) hb); have n2_ := Aside0.mk (Kd.V_below (Kd.V_elderB (by (with_reducible repeat (first | apply Kd.V_alloc | apply Kd.V_drewN | apply Kd.V_drew)); exact HL111_1.out) gb112 (Nat.le_of_eq hg.symm)) hb); have n3_ := Aside0.mk (Kd.C_below (by repeat (first | (with_reducible exact HR111_1.out) | (with_reducible refine Kd.C_alloc ?_ _) | (with_reducible refine Kd.C_drewN ?_ _) | (with_reducible refine Kd.C_drew ?_) | exact HR111_1.out)) hb); have n4_ := Aside0.mk (below_step (by repeat (first | (with_reducible first | exact HB.out | apply below_alloc | apply pw_below_drewN | apply below_drew1) | exact HB.out)) hb); have n5_ := Aside0.mk (hbox); have n6_ := Aside0.mk ((by rw [hg]; exact (below_size (by repeat (first | (with_reducible first | exact HB.out | apply below_alloc | apply pw_below_drewN | apply below_drew1) | exact HB.out))) : w.heap.size ≤ gb112)); have n7_ := Aside0.mk ((by rw [hg]; exact (below_size (by repeat (first | (with_reducible first | exact HB.out | apply below_alloc | apply pw_below_drewN | apply below_drew1) | exact HB.out))) : w.heap.size ≤ gb112)); clear HO_3; clear HO_8; clear HL111_1; clear HR111_1; clear HB; have HO_3 := n0_; have HO_8 := n1_; have HL111_1 := n2_; have HR111_1 := n3_; have HB := n4_; have BK112 := n5_; have GW112 := n6_; have GE112 := n7_; clear n0_ n1_ n2_ n3_ n4_ n5_ n6_ n7_; clear hb hbox hg; have hcz10_0 : w9.cell? ⟨gb112, 0, none⟩ = some (.int .u8 0) := (blk_cell BK112.out 0).trans rfl; have hcz10_1 : w9.cell? ⟨gb112, 1, none⟩ = some (.slice none 0 0) := (blk_cell BK112.out 1).trans rfl; have hfz10_0 := blk_frozen BK112.out 0; have hfz10_1 := blk_frozen BK112.out 1; obtain ⟨Ao11, co11, eo11⟩ := Kd.V_slice HO_3.out; subst eo11) | ((with_reducible refine gate_callee (f := 101) rfl ?_); refine goesL_ (some 18) rfl rfl Tryd.func101 (by kernel_rfl) rfl #[.int .i64 x10_1, .slice Ao11 x3_1.length co11] rfl (by (try simp only [List.map_toArray, List.map_cons, List.map_nil]); first | done | rfl | (simp only [List.length_drop, List.length_take]; rfl)) ?_; (with_reducible refine (block_expects.calls x10_1 _ _ x3_1 t113 t114 _ ?side1 ?side2 A5.out).mono ?_); (case side1 => refine (Kd.V_reads' (e := 5) (base := w.heap.size) (ok := fun k_ => ((P0_ k_ ∨ w.heap.size ≤ k_) ∧ k_ ≠ gb112)) (n := x3_1.length) (c := co11) ?_).2.2; exact (by (with_reducible repeat (first | apply Kd.V_alloc | apply Kd.V_drewN | apply Kd.V_drew)); exact (Kd.V_mono (Kd.V_far (p := ⟨gb112, 1, none⟩) (Kd.V_far (p := ⟨gb112, 0, none⟩) (Kd.V_mono HO_3.out (fun k_ hk => (⟨hk, hk.2⟩ : _ ∧ k_ ≠ gb112))) (fun _ hk => hk.2) (.int .u8 ((rd_T67 l0 x10_1).f0))) (fun _ hk => hk.2) (.slice A111_1 ((rd_T67 l0 x10_1).f1).length c111_1)) (fun _ h_ => h_.1)))); (case side2 => exact (Kd.V_reads' HO_3.out).2.1); rintro e w' ⟨rfl, ⟨nd, rfl⟩⟩; refine ⟨_, rfl, ?_⟩))
         go_ret
         exact ⟨by first | rfl | (simp [errW_none, errW_some] <;> rfl) | (simp [*, errW_none, errW_some] <;> rfl), by repeat (first | (with_reducible first | exact HB.out | apply below_alloc | apply pw_below_drewN | apply below_drew1 | refine below_set ?_ GE112.out) | exact HB.out)⟩
        ·rw [if_neg c8] at H
         have c8b0 : (t113 == 0) = false := beq_eq_false_iff_ne.mpr c8
         have c8b1 : (t113 != 0) = true := bne_iff_ne.mpr c8
         have H' := Aside0.mk H
         clear H
         have p111 : 0 ≤ (x10_1 : Int) := of_decide_eq_true (by first | (with_reducible assumption) | assumption)
         have q111 : x10_1 < (l0.length : Int) := of_decide_eq_true (by first | (with_reducible assumption) | assumption)
         obtain ⟨ad111, A111_1, c111_1, e111, hx111_0, hx111_1, hl111_1, hi111_1⟩ := at_T67 (Kd.V_reads' HO_8.out).2.2 x10_1 p111 q111
         cases e111
         obtain ⟨ce111, hce111, hMe111, hcc111⟩ := Kd.V_get HO_8.out z67 x10_1 p111 (by first | exact q111 | exact of_decide_eq_true (by first | (with_reducible assumption) | assumption) | (have e_ := (Kd.V_reads' HO_8.out).1; omega))
         obtain ⟨ua111_1, uc111_1, rfl, ul111_1, ge111_1⟩ := k67_openF hMe111
         have hv111_1 := hcc111 1 _ rfl
         rw [add_field _ _ 1 (by omega)] at hv111_1
         replace hv111_1 := Option.some.inj (hv111_1.symm.trans hx111_1)
         injection hv111_1 with hva_ hvn_ hvc_
         rw [hva_] at ge111_1
         rw [hvc_] at ul111_1
         have HL111_1 := Aside0.mk (show Kd.V (Kd.int .u8) 5 _ w.heap.size _ _ ((rd_T67 l0 x10_1).f1) from Kd.V_mk ul111_1 ge111_1)
         clear hva_ hvn_ hvc_ ge111_1 ul111_1
         clear hcc111 hce111
         have HR111_1 := Aside0.mk hi111_1
         have HC111_1 := Aside0.mk hl111_1
         clear hi111_1 hl111_1
         replace p111 := eq_true p111
         replace q111 := eq_true q111
         go_wp2_with (first | ((with_reducible refine gate_dst (N := 5) rfl ?_); (try (refine gate_guard (by rfl) ?_; dsimp only)); refine box_event ?hg (N := 5) ?hd (cs := #[.int .u8 0, .slice none 0 0]) (t := 67) ?hr ?_; (case hd => rfl); (case hg => rfl); (case hr => first | (go_simp; done) | (go_simp; rfl)); intro gb112 hg w12 hbox hb; have n0_ := Aside0.mk (Kd.V_below (Kd.V_elderB (by (with_reducible repeat (first | apply Kd.V_alloc | apply Kd.V_drewN | apply Kd.V_drew)); exact HO_3.out) gb112 (Nat.le_of_eq hg.symm)) hb); have n1_ := Aside0.mk (Kd.V_below (Kd.V_elderB (by (with_reducible repeat (first | apply Kd.V_alloc | apply Kd.V_drewN | apply Kd.V_drew)); exact HO_8.out) gb112 (Nat.le_of_eq hg.symm)) hb); have n2_ := Aside0.mk (Kd.V_below (Kd.V_elderB (by (with_reducible repeat (first | apply Kd.V_alloc | apply Kd.V_drewN | apply Kd.V_drew)); exact HL111_1.out) gb112 (Nat.le_of_eq hg.symm)) hb); have n3_ := Aside0.mk (Kd.C_below (by repeat (first | (with_reducible exact HR111_1.out) | (with_reducible refine Kd.C_alloc ?_ _) | (with_reducible refine Kd.C_drewN ?_ _) | (with_reducible refine Kd.C_drew ?_) | exact HR111_1.out)) hb); have n4_ := Aside0.mk (below_step (by repeat (first | (with_reducible first | exact HB.out | apply below_alloc | apply pw_below_drewN | apply below_drew1) | exact HB.out)) hb); have n5_ := Aside0.mk (hbox); have n6_ := Aside0.mk ((by rw [hg]; exact (below_size (by repeat (first | (with_reducible first | exact HB.out | apply below_alloc | apply pw_below_drewN | apply below_drew1) | exact HB.out))) : w.heap.size ≤ gb112)); have n7_ := Aside0.mk ((by rw [hg]; exact (below_size (by repeat (first | (with_reducible first | exact HB.out | apply below_alloc | apply pw_below_drewN | apply below_drew1) | exact HB.out))) : w.heap.size ≤ gb112)); clear HO_3; clear HO_8; clear HL111_1; clear HR111_1; clear HB; have HO_3 := n0_; have HO_8 := n1_; have HL111_1 := n2_; have HR111_1 := n3_; have HB := n4_; have BK112 := n5_; have GW112 := n6_; have GE112 := n7_; clear n0_ n1_ n2_ n3_ n4_ n5_ n6_ n7_; clear hb hbox hg; have hcz13_0 : w12.cell? ⟨gb112, 0, none⟩ = some (.int .u8 0) := (blk_cell BK112.out 0).trans rfl; have hcz13_1 : w12.cell? ⟨gb112, 1, none⟩ = some (.slice none 0 0) := (blk_cell BK112.out 1).trans rfl; have hfz13_0 := blk_frozen BK112.out 0; have hfz13_1 := blk_frozen BK112.out 1; obtain ⟨Ao14, co14, eo14⟩ := Kd.V_slice HO_3.out; subst eo14) | ((with_reducible refine gate_callee (f := 101) rfl ?_); refine goesL_ (some 18) rfl rfl Tryd.func101 (by kernel_rfl) rfl #[.int .i64 x10_1, .slice Ao14 x3_1.length co14] rfl (by (try simp only [List.map_toArray, List.map_cons, List.map_nil]); first | done | rfl | (simp only [List.length_drop, List.length_take]; rfl)) ?_; (with_reducible refine (block_expects.calls x10_1 _ _ x3_1 t113 t114 _ ?side1 ?side2 A5.out).mono ?_); (case side1 => refine (Kd.V_reads' (e := 5) (base := w.heap.size) (ok := fun k_ => ((P0_ k_ ∨ w.heap.size ≤ k_) ∧ k_ ≠ gb112)) (n := x3_1.length) (c := co14) ?_).2.2; exact (by (with_reducible repeat (first | apply Kd.V_alloc | apply Kd.V_drewN | apply Kd.V_drew)); exact (Kd.V_mono (Kd.V_far (p := ⟨gb112, 1, none⟩) (Kd.V_far (p := ⟨gb112, 0, none⟩) (Kd.V_mono HO_3.out (fun k_ hk => (⟨hk, hk.2⟩ : _ ∧ k_ ≠ gb112))) (fun _ hk => hk.2) (.int .u8 ((rd_T67 l0 x10_1).f0))) (fun _ hk => hk.2) (.slice A111_1 ((rd_T67 l0 x10_1).f1).length c111_1)) (fun _ h_ => h_.1)))); (case side2 => exact (Kd.V_reads' HO_3.out).2.1); rintro e w' ⟨rfl, ⟨nd, rfl⟩⟩; refine ⟨_, rfl, ?_⟩))
         go_roundg k1
         case measure => have := HK1.out; omega
         case rel => exact ⟨((rd_T67 l0 x10_1).f1), (wrap64 (x10_1 + 1)), (by first | rfl | (simp; done) | (simp [*]; done)), H', ⟨by have := HK1.out; omega⟩, ⟨by (with_reducible repeat (first | apply Kd.V_alloc | apply Kd.V_drewN | apply Kd.V_drew)); exact Kd.V_mono (Kd.V_far (p := ⟨gb112, 1, none⟩) (Kd.V_far (p := ⟨gb112, 0, none⟩) (Kd.V_mono HL111_1.out (fun k_ hk => (⟨hk, hk.2⟩ : _ ∧ k_ ≠ gb112))) (fun _ hk => hk.2) (.int .u8 ((rd_T67 l0 x10_1).f0))) (fun _ hk => hk.2) (.slice A111_1 ((rd_T67 l0 x10_1).f1).length c111_1)) (fun _ hk => hk.1.1)⟩, ⟨by (with_reducible repeat (first | apply Kd.V_alloc | apply Kd.V_drewN | apply Kd.V_drew)); exact Kd.V_mono (Kd.V_far (p := ⟨gb112, 1, none⟩) (Kd.V_far (p := ⟨gb112, 0, none⟩) (Kd.V_mono HO_8.out (fun k_ hk => (⟨hk, hk.2⟩ : _ ∧ k_ ≠ gb112))) (fun _ hk => hk.2) (.int .u8 ((rd_T67 l0 x10_1).f0))) (fun _ hk => hk.2) (.slice A111_1 ((rd_T67 l0 x10_1).f1).length c111_1)) (fun _ hk => hk.1.1)⟩, ⟨by repeat (first | (with_reducible first | exact HB.out | apply below_alloc | apply pw_below_drewN | apply below_drew1 | refine below_set ?_ GE112.out) | exact HB.out)⟩⟩
       ·rw [if_neg c7] at H
        have c7b0 : ((((rd_T67 l0 x10_1).f1).length : Int) == t114) = false := beq_eq_false_iff_ne.mpr c7
        have c7b1 : ((((rd_T67 l0 x10_1).f1).length : Int) != t114) = true := bne_iff_ne.mpr c7
        obtain rfl := Option.some.inj H
        have p111 : 0 ≤ (x10_1 : Int) := of_decide_eq_true (by first | (with_reducible assumption) | assumption)
        have q111 : x10_1 < (l0.length : Int) := of_decide_eq_true (by first | (with_reducible assumption) | assumption)
        obtain ⟨ad111, A111_1, c111_1, e111, hx111_0, hx111_1, hl111_1, hi111_1⟩ := at_T67 (Kd.V_reads' HO_8.out).2.2 x10_1 p111 q111
        cases e111
        obtain ⟨ce111, hce111, hMe111, hcc111⟩ := Kd.V_get HO_8.out z67 x10_1 p111 (by first | exact q111 | exact of_decide_eq_true (by first | (with_reducible assumption) | assumption) | (have e_ := (Kd.V_reads' HO_8.out).1; omega))
        obtain ⟨ua111_1, uc111_1, rfl, ul111_1, ge111_1⟩ := k67_openF hMe111
        have hv111_1 := hcc111 1 _ rfl
        rw [add_field _ _ 1 (by omega)] at hv111_1
        replace hv111_1 := Option.some.inj (hv111_1.symm.trans hx111_1)
        injection hv111_1 with hva_ hvn_ hvc_
        rw [hva_] at ge111_1
        rw [hvc_] at ul111_1
        have HL111_1 := Aside0.mk (show Kd.V (Kd.int .u8) 5 _ w.heap.size _ _ ((rd_T67 l0 x10_1).f1) from Kd.V_mk ul111_1 ge111_1)
        clear hva_ hvn_ hvc_ ge111_1 ul111_1
        clear hcc111 hce111
        have HR111_1 := Aside0.mk hi111_1
        have HC111_1 := Aside0.mk hl111_1
        clear hi111_1 hl111_1
        replace p111 := eq_true p111
        replace q111 := eq_true q111
        go_wp2_with (first | ((with_reducible refine gate_dst (N := 5) rfl ?_); (try (refine gate_guard (by rfl) ?_; dsimp only)); refine box_event ?hg (N := 5) ?hd (cs := #[.int .u8 0, .slice none 0 0]) (t := 67) ?hr ?_; (case hd => rfl); (case hg => rfl); (case hr => first | (go_simp; done) | (go_simp; rfl)); intro gb112 hg w15 hbox hb; have n0_ := Aside0.mk (Kd.V_below (Kd.V_elderB (by (with_reducible repeat (first | apply Kd.V_alloc | apply Kd.V_drewN | apply Kd.V_drew)); exact HO_3.out) gb112 (Nat.le_of_eq hg.symm)) hb); have n1_ := Aside0.mk (Kd.V_below (Kd.V_elderB (by (with_reducible repeat (first | apply Kd.V_alloc | apply Kd.V_drewN | apply Kd.V_drew)); exact HO_8.out) gb112 (Nat.le_of_eq hg.symm)) hb); have n2_ := Aside0.mk (Kd.V_below (Kd.V_elderB (by (with_reducible repeat (first | apply Kd.V_alloc | apply Kd.V_drewN | apply Kd.V_drew)); exact HL111_1.out) gb112 (Nat.le_of_eq hg.symm)) hb); have n3_ := Aside0.mk (Kd.C_below (by repeat (first | (with_reducible exact HR111_1.out) | (with_reducible refine Kd.C_alloc ?_ _) | (with_reducible refine Kd.C_drewN ?_ _) | (with_reducible refine Kd.C_drew ?_) | exact HR111_1.out)) hb); have n4_ := Aside0.mk (below_step (by repeat (first | (with_reducible first | exact HB.out | apply below_alloc | apply pw_below_drewN | apply below_drew1) | exact HB.out)) hb); have n5_ := Aside0.mk (hbox); have n6_ := Aside0.mk ((by rw [hg]; exact (below_size (by repeat (first | (with_reducible first | exact HB.out | apply below_alloc | apply pw_below_drewN | apply below_drew1) | exact HB.out))) : w.heap.size ≤ gb112)); have n7_ := Aside0.mk ((by rw [hg]; exact (below_size (by repeat (first | (with_reducible first | exact HB.out | apply below_alloc | apply pw_below_drewN | apply below_drew1) | exact HB.out))) : w.heap.size ≤ gb112)); clear HO_3; clear HO_8; clear HL111_1; clear HR111_1; clear HB; have HO_3 := n0_; have HO_8 := n1_; have HL111_1 := n2_; have HR111_1 := n3_; have HB := n4_; have BK112 := n5_; have GW112 := n6_; have GE112 := n7_; clear n0_ n1_ n2_ n3_ n4_ n5_ n6_ n7_; clear hb hbox hg; have hcz16_0 : w15.cell? ⟨gb112, 0, none⟩ = some (.int .u8 0) := (blk_cell BK112.out 0).trans rfl; have hcz16_1 : w15.cell? ⟨gb112, 1, none⟩ = some (.slice none 0 0) := (blk_cell BK112.out 1).trans rfl; have hfz16_0 := blk_frozen BK112.out 0; have hfz16_1 := blk_frozen BK112.out 1; obtain ⟨Ao17, co17, eo17⟩ := Kd.V_slice HO_3.out; subst eo17) | ((with_reducible refine gate_callee (f := 101) rfl ?_); refine goesL_ (some 18) rfl rfl Tryd.func101 (by kernel_rfl) rfl #[.int .i64 x10_1, .slice Ao17 x3_1.length co17] rfl (by (try simp only [List.map_toArray, List.map_cons, List.map_nil]); first | done | rfl | (simp only [List.length_drop, List.length_take]; rfl)) ?_; (with_reducible refine (block_expects.calls x10_1 _ _ x3_1 t113 t114 _ ?side1 ?side2 A5.out).mono ?_); (case side1 => refine (Kd.V_reads' (e := 5) (base := w.heap.size) (ok := fun k_ => ((P0_ k_ ∨ w.heap.size ≤ k_) ∧ k_ ≠ gb112)) (n := x3_1.length) (c := co17) ?_).2.2; exact (by (with_reducible repeat (first | apply Kd.V_alloc | apply Kd.V_drewN | apply Kd.V_drew)); exact (Kd.V_mono (Kd.V_far (p := ⟨gb112, 1, none⟩) (Kd.V_far (p := ⟨gb112, 0, none⟩) (Kd.V_mono HO_3.out (fun k_ hk => (⟨hk, hk.2⟩ : _ ∧ k_ ≠ gb112))) (fun _ hk => hk.2) (.int .u8 ((rd_T67 l0 x10_1).f0))) (fun _ hk => hk.2) (.slice A111_1 ((rd_T67 l0 x10_1).f1).length c111_1)) (fun _ h_ => h_.1)))); (case side2 => exact (Kd.V_reads' HO_3.out).2.1); rintro e w' ⟨rfl, ⟨nd, rfl⟩⟩; refine ⟨_, rfl, ?_⟩))
        go_ret
        exact ⟨by first | rfl | (simp [errW_none, errW_some] <;> rfl) | (simp [*, errW_none, errW_some] <;> rfl), by repeat (first | (with_reducible first | exact HB.out | apply below_alloc | apply pw_below_drewN | apply below_drew1 | refine below_set ?_ GE112.out) | exact HB.out)⟩
      ·rw [if_neg c6] at H
       have c6b0 : (((rd_T67 l0 x10_1).f0) == t113) = false := beq_eq_false_iff_ne.mpr c6
       have c6b1 : (((rd_T67 l0 x10_1).f0) != t113) = true := bne_iff_ne.mpr c6
       obtain rfl := Option.some.inj H
       have p111 : 0 ≤ (x10_1 : Int) := of_decide_eq_true (by first | (with_reducible assumption) | assumption)
       have q111 : x10_1 < (l0.length : Int) := of_decide_eq_true (by first | (with_reducible assumption) | assumption)
       obtain ⟨ad111, A111_1, c111_1, e111, hx111_0, hx111_1, hl111_1, hi111_1⟩ := at_T67 (Kd.V_reads' HO_8.out).2.2 x10_1 p111 q111
       cases e111
       obtain ⟨ce111, hce111, hMe111, hcc111⟩ := Kd.V_get HO_8.out z67 x10_1 p111 (by first | exact q111 | exact of_decide_eq_true (by first | (with_reducible assumption) | assumption) | (have e_ := (Kd.V_reads' HO_8.out).1; omega))
       obtain ⟨ua111_1, uc111_1, rfl, ul111_1, ge111_1⟩ := k67_openF hMe111
       have hv111_1 := hcc111 1 _ rfl
       rw [add_field _ _ 1 (by omega)] at hv111_1
       replace hv111_1 := Option.some.inj (hv111_1.symm.trans hx111_1)
       injection hv111_1 with hva_ hvn_ hvc_
       rw [hva_] at ge111_1
       rw [hvc_] at ul111_1
       have HL111_1 := Aside0.mk (show Kd.V (Kd.int .u8) 5 _ w.heap.size _ _ ((rd_T67 l0 x10_1).f1) from Kd.V_mk ul111_1 ge111_1)
       clear hva_ hvn_ hvc_ ge111_1 ul111_1
       clear hcc111 hce111
       have HR111_1 := Aside0.mk hi111_1
       have HC111_1 := Aside0.mk hl111_1
       clear hi111_1 hl111_1
       replace p111 := eq_true p111
       replace q111 := eq_true q111
       go_wp2_with (first | ((with_reducible refine gate_dst (N := 5) rfl ?_); (try (refine gate_guard (by rfl) ?_; dsimp only)); refine box_event ?hg (N := 5) ?hd (cs := #[.int .u8 0, .slice none 0 0]) (t := 67) ?hr ?_; (case hd => rfl); (case hg => rfl); (case hr => first | (go_simp; done) | (go_simp; rfl)); intro gb112 hg w18 hbox hb; have n0_ := Aside0.mk (Kd.V_below (Kd.V_elderB (by (with_reducible repeat (first | apply Kd.V_alloc | apply Kd.V_drewN | apply Kd.V_drew)); exact HO_3.out) gb112 (Nat.le_of_eq hg.symm)) hb); have n1_ := Aside0.mk (Kd.V_below (Kd.V_elderB (by (with_reducible repeat (first | apply Kd.V_alloc | apply Kd.V_drewN | apply Kd.V_drew)); exact HO_8.out) gb112 (Nat.le_of_eq hg.symm)) hb); have n2_ := Aside0.mk (Kd.V_below (Kd.V_elderB (by (with_reducible repeat (first | apply Kd.V_alloc | apply Kd.V_drewN | apply Kd.V_drew)); exact HL111_1.out) gb112 (Nat.le_of_eq hg.symm)) hb); have n3_ := Aside0.mk (Kd.C_below (by repeat (first | (with_reducible exact HR111_1.out) | (with_reducible refine Kd.C_alloc ?_ _) | (with_reducible refine Kd.C_drewN ?_ _) | (with_reducible refine Kd.C_drew ?_) | exact HR111_1.out)) hb); have n4_ := Aside0.mk (below_step (by repeat (first | (with_reducible first | exact HB.out | apply below_alloc | apply pw_below_drewN | apply below_drew1) | exact HB.out)) hb); have n5_ := Aside0.mk (hbox); have n6_ := Aside0.mk ((by rw [hg]; exact (below_size (by repeat (first | (with_reducible first | exact HB.out | apply below_alloc | apply pw_below_drewN | apply below_drew1) | exact HB.out))) : w.heap.size ≤ gb112)); have n7_ := Aside0.mk ((by rw [hg]; exact (below_size (by repeat (first | (with_reducible first | exact HB.out | apply below_alloc | apply pw_below_drewN | apply below_drew1) | exact HB.out))) : w.heap.size ≤ gb112)); clear HO_3; clear HO_8; clear HL111_1; clear HR111_1; clear HB; have HO_3 := n0_; have HO_8 := n1_; have HL111_1 := n2_; have HR111_1 := n3_; have HB := n4_; have BK112 := n5_; have GW112 := n6_; have GE112 := n7_; clear n0_ n1_ n2_ n3_ n4_ n5_ n6_ n7_; clear hb hbox hg; have hcz19_0 : w18.cell? ⟨gb112, 0, none⟩ = some (.int .u8 0) := (blk_cell BK112.out 0).trans rfl; have hcz19_1 : w18.cell? ⟨gb112, 1, none⟩ = some (.slice none 0 0) := (blk_cell BK112.out 1).trans rfl; have hfz19_0 := blk_frozen BK112.out 0; have hfz19_1 := blk_frozen BK112.out 1; obtain ⟨Ao20, co20, eo20⟩ := Kd.V_slice HO_3.out; subst eo20) | ((with_reducible refine gate_callee (f := 101) rfl ?_); refine goesL_ (some 18) rfl rfl Tryd.func101 (by kernel_rfl) rfl #[.int .i64 x10_1, .slice Ao20 x3_1.length co20] rfl (by (try simp only [List.map_toArray, List.map_cons, List.map_nil]); first | done | rfl | (simp only [List.length_drop, List.length_take]; rfl)) ?_; (with_reducible refine (block_expects.calls x10_1 _ _ x3_1 t113 t114 _ ?side1 ?side2 A5.out).mono ?_); (case side1 => refine (Kd.V_reads' (e := 5) (base := w.heap.size) (ok := fun k_ => ((P0_ k_ ∨ w.heap.size ≤ k_) ∧ k_ ≠ gb112)) (n := x3_1.length) (c := co20) ?_).2.2; exact (by (with_reducible repeat (first | apply Kd.V_alloc | apply Kd.V_drewN | apply Kd.V_drew)); exact (Kd.V_mono (Kd.V_far (p := ⟨gb112, 1, none⟩) (Kd.V_far (p := ⟨gb112, 0, none⟩) (Kd.V_mono HO_3.out (fun k_ hk => (⟨hk, hk.2⟩ : _ ∧ k_ ≠ gb112))) (fun _ hk => hk.2) (.int .u8 ((rd_T67 l0 x10_1).f0))) (fun _ hk => hk.2) (.slice A111_1 ((rd_T67 l0 x10_1).f1).length c111_1)) (fun _ h_ => h_.1)))); (case side2 => exact (Kd.V_reads' HO_3.out).2.1); rintro e w' ⟨rfl, ⟨nd, rfl⟩⟩; refine ⟨_, rfl, ?_⟩))
       go_ret
       exact ⟨by first | rfl | (simp [errW_none, errW_some] <;> rfl) | (simp [*, errW_none, errW_some] <;> rfl), by repeat (first | (with_reducible first | exact HB.out | apply below_alloc | apply pw_below_drewN | apply below_drew1 | refine below_set ?_ GE112.out) | exact HB.out)⟩
     ·rw [if_neg c4] at H
      exact absurd H (by simp)
    ·rw [if_neg c3] at H
     exact absurd H (by simp)
   ·rw [if_neg c2] at H
    have c2b0 : decide (x10_1 < (l0.length : Int)) = false := decide_eq_false c2
    clear c2
    obtain rfl := Option.some.inj H
    go_wp2
    go_ret
    exact ⟨by first | rfl | (simp [errW_none, errW_some] <;> rfl) | (simp [*, errW_none, errW_some] <;> rfl), by repeat (first | (with_reducible first | exact HB.out | apply below_alloc | apply pw_below_drewN | apply below_drew1) | exact HB.out)⟩

/-! ### block_Size: function 102 -/
def block_Size.l0 : Nat → Int → List (S67) → Int → Int → Option (Int)
 | 0, _, _, _, _ => none
 | k + 1, x3, x6, x7, x8 => if x8 < x7 then (if 0 ≤ x8 then (if x8 < (x6.length : Int) then (block_Size.l0 k (wrap64 (x3 + (wrap64 (1 + (((rd_T67 x6 x8).f1).length : Int))))) x6 x7 (wrap64 (x8 + 1))) else (none)) else (none)) else (some x3)
def block_Size.f (k : Nat) (l0 : List (S67)) : Option (Int) := block_Size.l0 k 0 l0 (l0.length : Int) 0
set_option maxHeartbeats 8000000 in
set_option maxRecDepth 100000 in
theorem block_Size.calls (k : Nat) (A0 : Option Addr) (c0 : Nat) (l0 : List (S67)) (r : Int) (w : World) (hr0 : Kd.C k67 w A0 l0.length l0) (hc0 : l0.length ≤ c0) (h : block_Size.f k l0 = some r) :
  Calls Tryd.prog 102 #[.slice A0 l0.length c0] w fun e w' => e = .returned (.int .i64 r) ∧ Below w.heap.size w w' := by
 have hu67 := Tryd.underlying67
 have HR0 := Aside0.mk hr0
 have HC0 := Aside0.mk hc0
 clear hr0 hc0
 have HB := Aside0.mk (Below.refl w.heap.size w)
 have H : (block_Size.l0 k 0 l0 (l0.length : Int) 0) = some r := h
 clear h
 have H' := Aside0.mk H
 clear H
 go_enter Tryd.func102, Tryd.ntmps102
 go_wp2
 go_loopg [3, 8] k (fun kq v3 v8 w' => ∃ (x3_1 : Int) (x8_1 : Int), v3 = .int .i64 x3_1 ∧ v8 = .int .i64 x8_1 ∧ Aside0 (block_Size.l0 kq x3_1 l0 (l0.length : Int) x8_1 = some r) ∧ Aside0 (kq ≤ k) ∧ Aside0 (Below w.heap.size w w'))
 case atStart => exact ⟨(0), (0), (by first | rfl | (simp; done) | (simp [*]; done)), (by first | rfl | (simp; done) | (simp [*]; done)), H', ⟨Nat.le_refl _⟩, ⟨by repeat (first | (with_reducible first | exact HB.out | apply below_alloc | apply pw_below_drewN | apply below_drew1) | exact HB.out)⟩⟩
 case round =>
  clear H'
  try clear c1
  obtain ⟨x3_1, x8_1, rfl, rfl, HA, HK1, HB⟩ := hrel
  cases gk with
  | zero => exact absurd HA.out (by simp [block_Size.l0])
  | succ k1 =>
   have H := HA.out
   clear HA
   simp only [block_Size.l0] at H
   by_cases c2 : x8_1 < (l0.length : Int)
   ·rw [if_pos c2] at H
    have c2b0 : decide (x8_1 < (l0.length : Int)) = true := decide_eq_true c2
    clear c2
    by_cases c3 : 0 ≤ x8_1
    ·rw [if_pos c3] at H
     have c3b0 : decide (0 ≤ x8_1) = true := decide_eq_true c3
     clear c3
     by_cases c4 : x8_1 < (l0.length : Int)
     ·rw [if_pos c4] at H
      have c4b0 : decide (x8_1 < (l0.length : Int)) = true := decide_eq_true c4
      clear c4
      have H' := Aside0.mk H
      clear H
      have p115 : 0 ≤ (x8_1 : Int) := of_decide_eq_true (by first | (with_reducible assumption) | assumption)
      have q115 : x8_1 < (l0.length : Int) := of_decide_eq_true (by first | (with_reducible assumption) | assumption)
      obtain ⟨ad115, A115_1, c115_1, e115, hx115_0, hx115_1, hl115_1, hi115_1⟩ := at_T67 HR0.out x8_1 p115 q115
      cases e115
      replace hx115_0 := (HB.out.cell (World.block_lt_of_cell? w _ hx115_0)).trans hx115_0
      replace hx115_1 := (HB.out.cell (World.block_lt_of_cell? w _ hx115_1)).trans hx115_1
      have HR115_1 := Aside0.mk hi115_1
      have HC115_1 := Aside0.mk hl115_1
      clear hi115_1 hl115_1
      replace p115 := eq_true p115
      replace q115 := eq_true q115
      go_wp2_with (first | ((with_reducible refine gate_dst (N := 5) rfl ?_); refine box_event ?hg (N := 5) ?hd (cs := #[.int .u8 0, .slice none 0 0]) (t := 67) ?hr ?_; (case hd => rfl); (case hg => rfl); (case hr => first | (go_simp; done) | (go_simp; rfl)); intro gb116 hg w5 hbox hb; have n0_ := Aside0.mk (below_step (by repeat (first | (with_reducible first | exact HB.out | apply below_alloc | apply pw_below_drewN | apply below_drew1) | exact HB.out)) hb); have n1_ := Aside0.mk (hbox); have n2_ := Aside0.mk ((by rw [hg]; exact (below_size (by repeat (first | (with_reducible first | exact HB.out | apply below_alloc | apply pw_below_drewN | apply below_drew1) | exact HB.out))) : w.heap.size ≤ gb116)); have n3_ := Aside0.mk ((by rw [hg]; exact (below_size (by repeat (first | (with_reducible first | exact HB.out | apply below_alloc | apply pw_below_drewN | apply below_drew1) | exact HB.out))) : w.heap.size ≤ gb116)); clear HB; have HB := n0_; have BK116 := n1_; have GW116 := n2_; have GE116 := n3_; clear n0_ n1_ n2_ n3_; clear hb hbox hg; have hcz6_0 : w5.cell? ⟨gb116, 0, none⟩ = some (.int .u8 0) := (blk_cell BK116.out 0).trans rfl; have hcz6_1 : w5.cell? ⟨gb116, 1, none⟩ = some (.slice none 0 0) := (blk_cell BK116.out 1).trans rfl; have hfz6_0 := blk_frozen BK116.out 0; have hfz6_1 := blk_frozen BK116.out 1))
      go_roundg k1
      case measure => have := HK1.out; omega
      case rel => exact ⟨(wrap64 (x3_1 + (wrap64 (1 + (((rd_T67 l0 x8_1).f1).length : Int))))), (wrap64 (x8_1 + 1)), (by first | rfl | (simp; done) | (simp [*]; done)), (by first | rfl | (simp; done) | (simp [*]; done)), H', ⟨by have := HK1.out; omega⟩, ⟨by repeat (first | (with_reducible first | exact HB.out | apply below_alloc | apply pw_below_drewN | apply below_drew1 | refine below_set ?_ GE116.out) | exact HB.out)⟩⟩
     ·rw [if_neg c4] at H
      exact absurd H (by simp)
    ·rw [if_neg c3] at H
     exact absurd H (by simp)
   ·rw [if_neg c2] at H
    have c2b0 : decide (x8_1 < (l0.length : Int)) = false := decide_eq_false c2
    clear c2
    obtain rfl := Option.some.inj H
    go_wp2
    go_ret
    exact ⟨by first | rfl | (simp [errW_none, errW_some] <;> rfl) | (simp [*, errW_none, errW_some] <;> rfl), by repeat (first | (with_reducible first | exact HB.out | apply below_alloc | apply pw_below_drewN | apply below_drew1) | exact HB.out)⟩

/-! ### groove_Full: function 94 -/
def groove_Full.f (k : Nat) (l0 : List (S67)) : Option (Int) := (block_Size.f k l0).bind fun t117 => (some (wrap64 ((wrap64 (3500 + t117)) + (wrap64 ((l0.length : Int) * 123)))))
set_option maxHeartbeats 8000000 in
set_option maxRecDepth 100000 in
theorem groove_Full.calls (k : Nat) (A0 : Option Addr) (c0 : Nat) (l0 : List (S67)) (r : Int) (w : World) (hr0 : Kd.C k67 w A0 l0.length l0) (hc0 : l0.length ≤ c0) (h : groove_Full.f k l0 = some r) :
  Calls Tryd.prog 94 #[.slice A0 l0.length c0] w fun e w' => e = .returned (.int .i64 r) ∧ Below w.heap.size w w' := by
 have HR0 := Aside0.mk hr0
 have HC0 := Aside0.mk hc0
 clear hr0 hc0
 have HB := Aside0.mk (Below.refl w.heap.size w)
 have H : ((block_Size.f k l0).bind fun t117 => (some (wrap64 ((wrap64 (3500 + t117)) + (wrap64 ((l0.length : Int) * 123)))))) = some r := h
 clear h
 replace H := Option.bind_eq_some_iff.mp H
 obtain ⟨t117, A20, H⟩ := H
 replace H : (some (wrap64 ((wrap64 (3500 + t117)) + (wrap64 ((l0.length : Int) * 123))))) = some r := H
 have A2 := Aside0.mk A20
 clear A20
 obtain rfl := Option.some.inj H
 go_enter Tryd.func94, Tryd.ntmps94
 go_wp2_with (first | ((with_reducible refine gate_callee (f := 102) rfl ?_); refine goesL_ (some 4) rfl rfl Tryd.func102 (by kernel_rfl) rfl #[.slice A0 l0.length c0] rfl (by (try simp only [List.map_toArray, List.map_cons, List.map_nil]); first | done | rfl | (simp only [List.length_drop, List.length_take]; rfl)) ?_; (with_reducible refine (block_Size.calls k _ _ l0 t117 _ ?side1 ?side2 A2.out).mono ?_); (case side1 => repeat (first | exact HR0.out | (with_reducible refine Kd.C_alloc ?_ _) | (with_reducible refine Kd.C_drewN ?_ _) | (with_reducible refine Kd.C_drew ?_))); (case side2 => exact HC0.out); rintro e w3 ⟨rfl, hb⟩; refine ⟨_, rfl, ?_⟩; have n0_ := Aside0.mk (below_step (by repeat (first | (with_reducible first | exact HB.out | apply below_alloc | apply pw_below_drewN | apply below_drew1) | exact HB.out)) hb); clear HB; have HB := n0_; clear n0_; (try clear hb); (try clear hb2); (try clear hk); (try clear hi)))
 go_ret
 exact ⟨by first | rfl | (simp [errW_none, errW_some] <;> rfl) | (simp [*, errW_none, errW_some] <;> rfl), by repeat (first | (with_reducible first | exact HB.out | apply below_alloc | apply pw_below_drewN | apply below_drew1) | exact HB.out)⟩

/-! ### seal_Short: function 95 -/
def seal_Short.l0 : Nat → Int → List Int → Int → Int → Option (Int)
 | 0, _, _, _, _ => none
 | k + 1, x3, x6, x7, x8 => if x8 < x7 then (if 0 ≤ x8 then (if x8 < (x6.length : Int) then ((seal_Step.f k x3 (rd x6 x8)).bind fun t119 => (seal_Short.l0 k t119 x6 x7 (wrap64 (x8 + 1)))) else (none)) else (none)) else ((seal_Step.f k x3 0).bind fun t120 => ((seal_Step.f k t120 0).bind fun t121 => (some t121)))
def seal_Short.f (k : Nat) (l0 : List Int) : Option (Int) := seal_Short.l0 k 32768 l0 (l0.length : Int) 0
set_option maxHeartbeats 8000000 in
set_option maxRecDepth 100000 in
theorem seal_Short.calls (k : Nat) (A0 : Option Addr) (c0 : Nat) (l0 : List Int) (r : Int) (w : World) (hr0 : Kd.C (Kd.int .u8) w A0 l0.length l0) (hc0 : l0.length ≤ c0) (h : seal_Short.f k l0 = some r) :
  Calls Tryd.prog 95 #[.slice A0 l0.length c0] w fun e w' => e = .returned (.int .u16 r) ∧ Drawn0 w w' := by
 have HR0 := Aside0.mk hr0
 have HC0 := Aside0.mk hc0
 clear hr0 hc0
 have H : (seal_Short.l0 k 32768 l0 (l0.length : Int) 0) = some r := h
 clear h
 have H' := Aside0.mk H
 clear H
 go_enter Tryd.func95, Tryd.ntmps95
 go_wp2
 go_loopg [3, 8] k (fun kq v3 v8 w' => ∃ (x3_1 : Int) (x8_1 : Int), v3 = .int .u16 x3_1 ∧ v8 = .int .i64 x8_1 ∧ Aside0 (seal_Short.l0 kq x3_1 l0 (l0.length : Int) x8_1 = some r) ∧ Aside0 (kq ≤ k) ∧ Drawn0 w w')
 case atStart => exact ⟨(32768), (0), (by first | rfl | (simp; done) | (simp [*]; done)), (by first | rfl | (simp; done) | (simp [*]; done)), H', ⟨Nat.le_refl _⟩, by repeat (first | exact Drawn0.refl _ | apply Drawn0.step)⟩
 case round =>
  clear H'
  obtain ⟨x3_1, x8_1, rfl, rfl, HA, HK1, ⟨m1, rfl⟩⟩ := hrel
  cases gk with
  | zero => exact absurd HA.out (by simp [seal_Short.l0])
  | succ k1 =>
   have H := HA.out
   clear HA
   simp only [seal_Short.l0] at H
   by_cases c2 : x8_1 < (l0.length : Int)
   ·rw [if_pos c2] at H
    have c2b0 : decide (x8_1 < (l0.length : Int)) = true := decide_eq_true c2
    clear c2
    by_cases c3 : 0 ≤ x8_1
    ·rw [if_pos c3] at H
     have c3b0 : decide (0 ≤ x8_1) = true := decide_eq_true c3
     clear c3
     by_cases c4 : x8_1 < (l0.length : Int)
     ·rw [if_pos c4] at H
      have c4b0 : decide (x8_1 < (l0.length : Int)) = true := decide_eq_true c4
      clear c4
      replace H := Option.bind_eq_some_iff.mp H
      obtain ⟨t119, A50, H⟩ := H
      replace H : (seal_Short.l0 k1 t119 l0 (l0.length : Int) (wrap64 (x8_1 + 1))) = some r := H
      have A5 := Aside0.mk A50
      clear A50
      have H' := Aside0.mk H
      clear H
      have p118 : 0 ≤ (x8_1 : Int) := of_decide_eq_true (by first | (with_reducible assumption) | assumption)
      have q118 : x8_1 < (l0.length : Int) := of_decide_eq_true (by first | (with_reducible assumption) | assumption)
      obtain ⟨ad118, e118, hx118_0⟩ := Kd.at_int HR0.out x8_1 p118 q118
      cases e118
      replace p118 := eq_true p118
      replace q118 := eq_true q118
      go_wp2_with (first | ((with_reducible refine gate_callee (f := 83) rfl ?_); refine goesL_ (some 14) rfl rfl Tryd.func83 (by kernel_rfl) rfl #[.int .u16 x3_1, .int .u8 (rd l0 x8_1)] rfl (by (try simp only [List.map_toArray, List.map_cons, List.map_nil]); first | done | rfl | (simp only [List.length_drop, List.length_take]; rfl)) ?_; (with_reducible refine (seal_Step.calls k1 x3_1 (rd l0 x8_1) t119 _ A5.out).mono ?_); rintro e w' ⟨rfl, ⟨nd, rfl⟩⟩; refine ⟨_, rfl, ?_⟩))
      go_roundg k1
      case measure => have := HK1.out; omega
      case rel => exact ⟨(t119), (wrap64 (x8_1 + 1)), (by first | rfl | (simp; done) | (simp [*]; done)), (by first | rfl | (simp; done) | (simp [*]; done)), H', ⟨by have := HK1.out; omega⟩, by repeat (first | exact Drawn0.refl _ | apply Drawn0.step)⟩
     ·rw [if_neg c4] at H
      exact absurd H (by simp)
    ·rw [if_neg c3] at H
     exact absurd H (by simp)
   ·rw [if_neg c2] at H
    have c2b0 : decide (x8_1 < (l0.length : Int)) = false := decide_eq_false c2
    clear c2
    replace H := Option.bind_eq_some_iff.mp H
    obtain ⟨t120, A60, H⟩ := H
    replace H : ((seal_Step.f k1 t120 0).bind fun t121 => (some t121)) = some r := H
    have A6 := Aside0.mk A60
    clear A60
    replace H := Option.bind_eq_some_iff.mp H
    obtain ⟨t121, A70, H⟩ := H
    replace H : (some t121) = some r := H
    have A7 := Aside0.mk A70
    clear A70
    obtain rfl := Option.some.inj H
    go_wp2_with (first | ((with_reducible refine gate_callee (f := 83) rfl ?_); refine goesL_ (some 17) rfl rfl Tryd.func83 (by kernel_rfl) rfl #[.int .u16 x3_1, .int .u8 0] rfl (by (try simp only [List.map_toArray, List.map_cons, List.map_nil]); first | done | rfl | (simp only [List.length_drop, List.length_take]; rfl)) ?_; (with_reducible refine (seal_Step.calls k1 x3_1 0 t120 _ A6.out).mono ?_); rintro e w' ⟨rfl, ⟨nd, rfl⟩⟩; refine ⟨_, rfl, ?_⟩) | ((with_reducible refine gate_callee (f := 83) rfl ?_); refine goesL_ (some 18) rfl rfl Tryd.func83 (by kernel_rfl) rfl #[.int .u16 t120, .int .u8 0] rfl (by (try simp only [List.map_toArray, List.map_cons, List.map_nil]); first | done | rfl | (simp only [List.length_drop, List.length_take]; rfl)) ?_; (with_reducible refine (seal_Step.calls k1 t120 0 t121 _ A7.out).mono ?_); rintro e w' ⟨rfl, ⟨nd, rfl⟩⟩; refine ⟨_, rfl, ?_⟩))
    go_ret
    exact ⟨by first | rfl | (simp; done) | (simp [*]; done), by repeat (first | exact Drawn0.refl _ | apply Drawn0.step)⟩

/-! ### groove_Lay: function 73 -/
mutual
def groove_Lay.j0 : Nat → List (S67) → Bool → Option (List Int × Bool)
 | 0, _, _ => none
 | k + 1, x0, x16 => if x16 = true then (some (([] : List Int), false)) else ((groove_Full.f k x0).bind fun t124 => (if 3500 ≤ t124 then (if (t124 : Int).toNat ≤ 281474976710656 then (groove_Lay.l0 k (List.replicate 3500 0) x0 (x0.length : Int) 0) else (none)) else (none)))
def groove_Lay.l0 : Nat → List Int → List (S67) → Int → Int → Option (List Int × Bool)
 | 0, _, _, _, _ => none
 | k + 1, x4, x20, x21, x22 => if x22 < x21 then (if 0 ≤ x22 then (if x22 < (x20.length : Int) then ((some (([128, (rd_T67 x20 x22).f0] : List Int) : List Int)).bind fun y130 => (if y130.length + ((rd_T67 x20 x22).f1).length < 140737488355328 then ((some (y130 ++ ((rd_T67 x20 x22).f1) : List Int)).bind fun y133 => ((seal_Short.f k y133).bind fun t136 => (if x4.length + y133.length < 140737488355328 then ((some (x4 ++ y133 : List Int)).bind fun y137 => ((some (([(t136) % 256, (t136 / 256) % 256] : List Int) : List Int)).bind fun y140 => (if y137.length + y140.length < 140737488355328 then ((some (y137 ++ y140 : List Int)).bind fun y143 => (if y143.length + 120 < 140737488355328 then (groove_Lay.l0 k (y143 ++ List.replicate 120 0) x20 x21 (wrap64 (x22 + 1))) else (none))) else (none)))) else (none)))) else (none))) else (none)) else (none)) else (some (x4, true))
end
def groove_Lay.f (k : Nat) (l0 : List (S67)) : Option (List Int × Bool) := (block_Right.f k l0).bind fun t122 => (if t122 = true then ((groove_Full.f k l0).bind fun t123 => (groove_Lay.j0 k l0 (decide (t123 > 65536)))) else (groove_Lay.j0 k l0 true))
set_option maxHeartbeats 8000000 in
set_option maxRecDepth 100000 in
theorem groove_Lay.calls (k : Nat) (A0 : Option Addr) (c0 : Nat) (l0 : List (S67)) (r1 : List Int) (r2 : Bool) (w : World) (hr0 : Kd.C k67 w A0 l0.length l0) (hc0 : l0.length ≤ c0) (h : groove_Lay.f k l0 = some (r1, r2)) :
  Calls Tryd.prog 73 #[.slice A0 l0.length c0] w fun e w' => ∃ v0_ : Value, e = .returned (.tuple #[v0_, .bool r2]) ∧ Kd.R (Kd.int .u8) 5 w' w.heap.size (fun _ => True) v0_ r1 ∧ Below w.heap.size w w' := by
 have hu67 := Tryd.underlying67
 have HR0 := Aside0.mk hr0
 have HC0 := Aside0.mk hc0
 clear hr0 hc0
 have HB := Aside0.mk (Below.refl w.heap.size w)
 have H : ((block_Right.f k l0).bind fun t122 => (if t122 = true then ((groove_Full.f k l0).bind fun t123 => (groove_Lay.j0 k l0 (decide (t123 > 65536)))) else (groove_Lay.j0 k l0 true))) = some (r1, r2) := h
 clear h
 have HC2 := Aside0.mk H
 clear H
 go_enter Tryd.func73, Tryd.ntmps73
 go_upto_region 1 with (fail)
 go_cut [16] (fun v16 wc => ∃ (kq : Nat) (x16_1 : Bool), v16 = .bool x16_1 ∧ Aside0 (groove_Lay.j0 kq l0 x16_1 = some (r1, r2)) ∧ Aside0 (kq ≤ k) ∧ Aside0 (Below w.heap.size w wc))
 case first =>
  have H := HC2.out
  clear HC2
  replace H := Option.bind_eq_some_iff.mp H
  obtain ⟨t122, A30, H⟩ := H
  replace H : (if t122 = true then ((groove_Full.f k l0).bind fun t123 => (groove_Lay.j0 k l0 (decide (t123 > 65536)))) else (groove_Lay.j0 k l0 true)) = some (r1, r2) := H
  have A3 := Aside0.mk A30
  clear A30
  by_cases c4 : t122 = true
  ·subst c4
   have H1 : ((groove_Full.f k l0).bind fun t123 => (groove_Lay.j0 k l0 (decide (t123 > 65536)))) = some (r1, r2) := by rw [if_pos rfl] at H; exact H
   clear H
   have H := H1
   clear H1
   replace H := Option.bind_eq_some_iff.mp H
   obtain ⟨t123, A50, H⟩ := H
   replace H : (groove_Lay.j0 k l0 (decide (t123 > 65536))) = some (r1, r2) := H
   have A5 := Aside0.mk A50
   clear A50
   have H' := Aside0.mk H
   clear H
   go_wp2_with (first | ((with_reducible refine gate_callee (f := 93) rfl ?_); refine goesL_ (some 10) rfl rfl Tryd.func93 (by kernel_rfl) rfl #[.slice A0 l0.length c0] rfl (by (try simp only [List.map_toArray, List.map_cons, List.map_nil]); first | done | rfl | (simp only [List.length_drop, List.length_take]; rfl)) ?_; (with_reducible refine (block_Right.calls k (fun k_ => k_ < w.heap.size) _ _ l0 true _ ?side1 A3.out).mono ?_); (case side1 => exact Kd.V_mk HC0.out (Kd.F_below (Kd.C_F k67_heap HR0.out) (by repeat (first | (with_reducible first | exact HB.out | apply below_alloc | apply pw_below_drewN | apply below_drew1) | exact HB.out)))); rintro e w6 ⟨rfl, hb⟩; refine ⟨_, rfl, ?_⟩; have n0_ := Aside0.mk (below_step (by repeat (first | (with_reducible first | exact HB.out | apply below_alloc | apply pw_below_drewN | apply below_drew1) | exact HB.out)) hb); clear HB; have HB := n0_; clear n0_; (try clear hb); (try clear hb2); (try clear hk); (try clear hi)) | (go_at_call 94; (with_reducible refine (groove_Full.calls k _ _ l0 t123 _ ?side1 ?side2 A5.out).mono ?_); (case side1 => repeat (first | exact (Kd.C_below HR0.out HB.out) | (with_reducible refine Kd.C_alloc ?_ _) | (with_reducible refine Kd.C_drewN ?_ _) | (with_reducible refine Kd.C_drew ?_))); (case side2 => exact HC0.out); rintro e w7 ⟨rfl, hb⟩; have n0_ := Aside0.mk (below_step (by repeat (first | (with_reducible first | exact HB.out | apply below_alloc | apply pw_below_drewN | apply below_drew1) | exact HB.out)) hb); clear HB; have HB := n0_; clear n0_; (try clear hb); (try clear hb2); (try clear hk); (try clear hi)))
   go_meet
   case rel => exact ⟨_, (decide (t123 > 65536)), (by first | rfl | (simp; done) | (simp [*]; done)), H', ⟨by first | omega | exact Nat.le_refl _⟩, ⟨by repeat (first | (with_reducible first | exact HB.out | apply below_alloc | apply pw_below_drewN | apply below_drew1) | exact HB.out)⟩⟩
  ·replace c4 := Bool.eq_false_iff.mpr c4
   subst c4
   have H1 : (groove_Lay.j0 k l0 true) = some (r1, r2) := by rw [if_neg (show ¬ (false = true) by decide)] at H; exact H
   clear H
   have H := H1
   clear H1
   have H' := Aside0.mk H
   clear H
   go_wp2_with (first | ((with_reducible refine gate_callee (f := 93) rfl ?_); refine goesL_ (some 10) rfl rfl Tryd.func93 (by kernel_rfl) rfl #[.slice A0 l0.length c0] rfl (by (try simp only [List.map_toArray, List.map_cons, List.map_nil]); first | done | rfl | (simp only [List.length_drop, List.length_take]; rfl)) ?_; (with_reducible refine (block_Right.calls k (fun k_ => k_ < w.heap.size) _ _ l0 false _ ?side1 A3.out).mono ?_); (case side1 => exact Kd.V_mk HC0.out (Kd.F_below (Kd.C_F k67_heap HR0.out) (by repeat (first | (with_reducible first | exact HB.out | apply below_alloc | apply pw_below_drewN | apply below_drew1) | exact HB.out)))); rintro e w8 ⟨rfl, hb⟩; refine ⟨_, rfl, ?_⟩; have n0_ := Aside0.mk (below_step (by repeat (first | (with_reducible first | exact HB.out | apply below_alloc | apply pw_below_drewN | apply below_drew1) | exact HB.out)) hb); clear HB; have HB := n0_; clear n0_; (try clear hb); (try clear hb2); (try clear hk); (try clear hi)))
   go_meet
   case rel => exact ⟨_, (true), (by first | rfl | (simp; done) | (simp [*]; done)), H', ⟨by first | omega | exact Nat.le_refl _⟩, ⟨by repeat (first | (with_reducible first | exact HB.out | apply below_alloc | apply pw_below_drewN | apply below_drew1) | exact HB.out)⟩⟩
 case rest =>
  clear HC2
  try clear p2
  try clear c4
  try clear c7
  obtain ⟨kq, x16_1, rfl, HA, HJ1, HB⟩ := hcut
  cases kq with
  | zero => exact absurd HA.out (by simp [groove_Lay.j0])
  | succ kj1 =>
   have H := HA.out
   clear HA
   simp only [groove_Lay.j0] at H
   by_cases c9 : x16_1 = true
   ·subst c9
    have H1 : (some (([] : List Int), false)) = some (r1, r2) := by rw [if_pos rfl] at H; exact H
    clear H
    have H := H1
    clear H1
    simp only [Option.some.injEq, Prod.mk.injEq] at H
    obtain ⟨rfl, rfl⟩ := H
    go_wp2
    go_ret2
    exact ⟨_, by first | rfl | (simp [errW_none, errW_some] <;> rfl) | (simp [*, errW_none, errW_some] <;> rfl), by first | exact Kd.R_nil _ _ _ _ _ | exact Kd.N_nil _ _ _ _ _ | exact Kd.V_nil _ _ _ _ _ | exact Kd.Q_nil _ _ _ _ _ | exact Kd.S_nil _ _ _ _ _, by repeat (first | (with_reducible first | exact HB.out | apply below_alloc | apply pw_below_drewN | apply below_drew1) | exact HB.out)⟩
   ·replace c9 := Bool.eq_false_iff.mpr c9
    subst c9
    have H1 : ((groove_Full.f kj1 l0).bind fun t124 => (if 3500 ≤ t124 then (if (t124 : Int).toNat ≤ 281474976710656 then (groove_Lay.l0 kj1 (List.replicate 3500 0) l0 (l0.length : Int) 0) else (none)) else (none))) = some (r1, r2) := by rw [if_neg (show ¬ (false = true) by decide)] at H; exact H
    clear H
    have H := H1
    clear H1
    replace H := Option.bind_eq_some_iff.mp H
    obtain ⟨t124, A100, H⟩ := H
    replace H : (if 3500 ≤ t124 then (if (t124 : Int).toNat ≤ 281474976710656 then (groove_Lay.l0 kj1 (List.replicate 3500 0) l0 (l0.length : Int) 0) else (none)) else (none)) = some (r1, r2) := H
    have A10 := Aside0.mk A100
    clear A100
    by_cases c11 : 3500 ≤ t124
    ·rw [if_pos c11] at H
     have c11b0 : decide (3500 ≤ t124) = true := decide_eq_true c11
     clear c11
     by_cases c12 : (t124 : Int).toNat ≤ 281474976710656
     ·rw [if_pos c12] at H
      have c12b0 := eq_true c12
      have c12b1 : decide ((t124 : Int).toNat ≤ 281474976710656) = true := decide_eq_true c12
      clear c12
      obtain ⟨y125, hy125⟩ : ∃ y_ : List Int, y_ = (List.replicate 3500 0) := ⟨_, rfl⟩
      replace H : (groove_Lay.l0 kj1 y125 l0 (l0.length : Int) 0) = some (r1, r2) := by first | (rw [hy125]; with_reducible exact H) | (have H2_ := (Option.bind_some _ _).symm.trans H; rw [hy125]; with_reducible exact H2_) | (have H2_ := (Option.bind_some _ _).symm.trans H; with_reducible exact H2_) | with_reducible exact H | (rw [hy125]; exact H) | exact H
      have Ny125 := Aside0.mk hy125
      clear hy125
      have H' := Aside0.mk H
      clear H
      go_wp2_with (first | ((with_reducible refine gate_callee (f := 94) rfl ?_); refine goesL_ (some 18) rfl rfl Tryd.func94 (by kernel_rfl) rfl #[.slice A0 l0.length c0] rfl (by (try simp only [List.map_toArray, List.map_cons, List.map_nil]); first | done | rfl | (simp only [List.length_drop, List.length_take]; rfl)) ?_; (with_reducible refine (groove_Full.calls kj1 _ _ l0 t124 _ ?side1 ?side2 A10.out).mono ?_); (case side1 => repeat (first | exact (Kd.C_below HR0.out HB.out) | (with_reducible refine Kd.C_alloc ?_ _) | (with_reducible refine Kd.C_drewN ?_ _) | (with_reducible refine Kd.C_drew ?_))); (case side2 => exact HC0.out); rintro e w13 ⟨rfl, hb⟩; refine ⟨_, rfl, ?_⟩; have n0_ := Aside0.mk (below_step (by repeat (first | (with_reducible first | exact HB.out | apply below_alloc | apply pw_below_drewN | apply below_drew1) | exact HB.out)) hb); clear HB; have HB := n0_; clear n0_; (try clear hb); (try clear hb2); (try clear hk); (try clear hi)) | ((with_reducible refine gate_dst (N := 19) rfl ?_); refine Go.Proofs.YtaiaapjlpbhlbaaDoor.H.R_makecap _ 5 rfl (N := 19) rfl 36 _ _ rfl .i64 .i64 3500 t124 rfl rfl Tryd.underlying36 info5 (ok := fun _ => True) (okp := fun _ => True) (fun _ hk => hk) trivial (by omega) (of_decide_eq_true (by first | (with_reducible assumption) | assumption)) (Nat.le_trans (Nat.mul_le_mul_right _ (of_decide_eq_true (by first | (with_reducible assumption) | assumption) : (t124 : Int).toNat ≤ 281474976710656)) (by omega)) (Below.refl _ _) (Nat.le_refl _) ?_; intro v126 w14 ho15 hb hg_ hnew_; clear hg_ hnew_; (first | rw [← Ny125.out] at ho15 | (simp only [Int.reduceToNat] at ho15; rw [← Ny125.out] at ho15)); have n0_ := Aside0.mk (Kd.R_lower ho15 (below_size (by repeat (first | (with_reducible first | exact HB.out | apply below_alloc | apply pw_below_drewN | apply below_drew1) | exact HB.out)))); have n1_ := Aside0.mk (below_step (by repeat (first | (with_reducible first | exact HB.out | apply below_alloc | apply pw_below_drewN | apply below_drew1) | exact HB.out)) hb); clear HB; have HO127 := n0_; have HB := n1_; clear n0_ n1_; clear hb ho15))
      go_loopg [4, 22] kj1 (fun kq v4 v22 w' => ∃ (x4_2 : List Int) (x22_2 : Int), v22 = .int .i64 x22_2 ∧ Aside0 (groove_Lay.l0 kq x4_2 l0 (l0.length : Int) x22_2 = some (r1, r2)) ∧ Aside0 (kq ≤ kj1) ∧ Aside0 (Kd.R (Kd.int .u8) 5 w' w.heap.size (fun _ => True) v4 x4_2) ∧ Aside0 (Below w.heap.size w w'))
      case atStart => exact ⟨(y125), (0), (by first | rfl | (simp; done) | (simp [*]; done)), H', ⟨Nat.le_refl _⟩, ⟨by (with_reducible repeat (first | apply Kd.R_alloc | apply Kd.R_drewN | apply Kd.R_drew)); exact HO127.out⟩, ⟨by repeat (first | (with_reducible first | exact HB.out | apply below_alloc | apply pw_below_drewN | apply below_drew1) | exact HB.out)⟩⟩
      case round =>
       clear H'
       try clear c1
       try clear p2
       try clear c4
       try clear c7
       try clear c9
       try clear c11
       try clear c11b0
       try clear c12
       try clear c12b0
       try clear c12b1
       try clear p2
       obtain ⟨x4_2, x22_2, rfl, HA, HK2, HO_4, HB⟩ := hrel
       cases gk with
       | zero => exact absurd HA.out (by simp [groove_Lay.l0])
       | succ k2 =>
        have H := HA.out
        clear HA
        simp only [groove_Lay.l0] at H
        by_cases c16 : x22_2 < (l0.length : Int)
        ·rw [if_pos c16] at H
         have c16b0 : decide (x22_2 < (l0.length : Int)) = true := decide_eq_true c16
         clear c16
         by_cases c17 : 0 ≤ x22_2
         ·rw [if_pos c17] at H
          have c17b0 : decide (0 ≤ x22_2) = true := decide_eq_true c17
          clear c17
          by_cases c18 : x22_2 < (l0.length : Int)
          ·rw [if_pos c18] at H
           have c18b0 : decide (x22_2 < (l0.length : Int)) = true := decide_eq_true c18
           clear c18
           obtain ⟨y130, hy130⟩ : ∃ y_ : List Int, y_ = (([128, (rd_T67 l0 x22_2).f0] : List Int)) := ⟨_, rfl⟩
           replace H : (if y130.length + ((rd_T67 l0 x22_2).f1).length < 140737488355328 then ((some (y130 ++ ((rd_T67 l0 x22_2).f1) : List Int)).bind fun y133 => ((seal_Short.f k2 y133).bind fun t136 => (if x4_2.length + y133.length < 140737488355328 then ((some (x4_2 ++ y133 : List Int)).bind fun y137 => ((some (([(t136) % 256, (t136 / 256) % 256] : List Int) : List Int)).bind fun y140 => (if y137.length + y140.length < 140737488355328 then ((some (y137 ++ y140 : List Int)).bind fun y143 => (if y143.length + 120 < 140737488355328 then (groove_Lay.l0 k2 (y143 ++ List.replicate 120 0) l0 (l0.length : Int) (wrap64 (x22_2 + 1))) else (none))) else (none)))) else (none)))) else (none)) = some (r1, r2) := by first | (rw [hy130]; with_reducible exact H) | (have H2_ := (Option.bind_some _ _).symm.trans H; rw [hy130]; with_reducible exact H2_) | (have H2_ := (Option.bind_some _ _).symm.trans H; with_reducible exact H2_) | with_reducible exact H | (rw [hy130]; exact H) | exact H
           have Ny130 := Aside0.mk hy130
           clear hy130
           by_cases c19 : y130.length + ((rd_T67 l0 x22_2).f1).length < 140737488355328
           ·rw [if_pos c19] at H
            have LMc19 := Aside0.mk c19
            clear c19
            obtain ⟨y133, hy133⟩ : ∃ y_ : List Int, y_ = (y130 ++ ((rd_T67 l0 x22_2).f1)) := ⟨_, rfl⟩
            replace H : ((seal_Short.f k2 y133).bind fun t136 => (if x4_2.length + y133.length < 140737488355328 then ((some (x4_2 ++ y133 : List Int)).bind fun y137 => ((some (([(t136) % 256, (t136 / 256) % 256] : List Int) : List Int)).bind fun y140 => (if y137.length + y140.length < 140737488355328 then ((some (y137 ++ y140 : List Int)).bind fun y143 => (if y143.length + 120 < 140737488355328 then (groove_Lay.l0 k2 (y143 ++ List.replicate 120 0) l0 (l0.length : Int) (wrap64 (x22_2 + 1))) else (none))) else (none)))) else (none))) = some (r1, r2) := by first | (rw [hy133]; with_reducible exact H) | (have H2_ := (Option.bind_some _ _).symm.trans H; rw [hy133]; with_reducible exact H2_) | (have H2_ := (Option.bind_some _ _).symm.trans H; with_reducible exact H2_) | with_reducible exact H | (rw [hy133]; exact H) | exact H
            have Ny133 := Aside0.mk hy133
            clear hy133
            replace H := Option.bind_eq_some_iff.mp H
            obtain ⟨t136, A200, H⟩ := H
            replace H : (if x4_2.length + y133.length < 140737488355328 then ((some (x4_2 ++ y133 : List Int)).bind fun y137 => ((some (([(t136) % 256, (t136 / 256) % 256] : List Int) : List Int)).bind fun y140 => (if y137.length + y140.length < 140737488355328 then ((some (y137 ++ y140 : List Int)).bind fun y143 => (if y143.length + 120 < 140737488355328 then (groove_Lay.l0 k2 (y143 ++ List.replicate 120 0) l0 (l0.length : Int) (wrap64 (x22_2 + 1))) else (none))) else (none)))) else (none)) = some (r1, r2) := H
            have A20 := Aside0.mk A200
            clear A200
            by_cases c21 : x4_2.length + y133.length < 140737488355328
            ·rw [if_pos c21] at H
             have LMc21 := Aside0.mk c21
             clear c21
             obtain ⟨y137, hy137⟩ : ∃ y_ : List Int, y_ = (x4_2 ++ y133) := ⟨_, rfl⟩
             replace H : ((some (([(t136) % 256, (t136 / 256) % 256] : List Int) : List Int)).bind fun y140 => (if y137.length + y140.length < 140737488355328 then ((some (y137 ++ y140 : List Int)).bind fun y143 => (if y143.length + 120 < 140737488355328 then (groove_Lay.l0 k2 (y143 ++ List.replicate 120 0) l0 (l0.length : Int) (wrap64 (x22_2 + 1))) else (none))) else (none))) = some (r1, r2) := by first | (rw [hy137]; with_reducible exact H) | (have H2_ := (Option.bind_some _ _).symm.trans H; rw [hy137]; with_reducible exact H2_) | (have H2_ := (Option.bind_some _ _).symm.trans H; with_reducible exact H2_) | with_reducible exact H | (rw [hy137]; exact H) | exact H
             have Ny137 := Aside0.mk hy137
             clear hy137
             obtain ⟨y140, hy140⟩ : ∃ y_ : List Int, y_ = (([(t136) % 256, (t136 / 256) % 256] : List Int)) := ⟨_, rfl⟩
             replace H : (if y137.length + y140.length < 140737488355328 then ((some (y137 ++ y140 : List Int)).bind fun y143 => (if y143.length + 120 < 140737488355328 then (groove_Lay.l0 k2 (y143 ++ List.replicate 120 0) l0 (l0.length : Int) (wrap64 (x22_2 + 1))) else (none))) else (none)) = some (r1, r2) := by first | (rw [hy140]; with_reducible exact H) | (have H2_ := (Option.bind_some _ _).symm.trans H; rw [hy140]; with_reducible exact H2_) | (have H2_ := (Option.bind_some _ _).symm.trans H; with_reducible exact H2_) | with_reducible exact H | (rw [hy140]; exact H) | exact H
             have Ny140 := Aside0.mk hy140
             clear hy140
             by_cases c22 : y137.length + y140.length < 140737488355328
             ·rw [if_pos c22] at H
              have LMc22 := Aside0.mk c22
              clear c22
              obtain ⟨y143, hy143⟩ : ∃ y_ : List Int, y_ = (y137 ++ y140) := ⟨_, rfl⟩
              replace H : (if y143.length + 120 < 140737488355328 then (groove_Lay.l0 k2 (y143 ++ List.replicate 120 0) l0 (l0.length : Int) (wrap64 (x22_2 + 1))) else (none)) = some (r1, r2) := by first | (rw [hy143]; with_reducible exact H) | (have H2_ := (Option.bind_some _ _).symm.trans H; rw [hy143]; with_reducible exact H2_) | (have H2_ := (Option.bind_some _ _).symm.trans H; with_reducible exact H2_) | with_reducible exact H | (rw [hy143]; exact H) | exact H
              have Ny143 := Aside0.mk hy143
              clear hy143
              by_cases c23 : y143.length + 120 < 140737488355328
              ·rw [if_pos c23] at H
               have LMc23 := Aside0.mk c23
               clear c23
               obtain ⟨y146, hy146⟩ : ∃ y_ : List Int, y_ = (y143 ++ List.replicate 120 0) := ⟨_, rfl⟩
               replace H : (groove_Lay.l0 k2 y146 l0 (l0.length : Int) (wrap64 (x22_2 + 1))) = some (r1, r2) := by first | (rw [hy146]; with_reducible exact H) | (have H2_ := (Option.bind_some _ _).symm.trans H; rw [hy146]; with_reducible exact H2_) | (have H2_ := (Option.bind_some _ _).symm.trans H; with_reducible exact H2_) | with_reducible exact H | (rw [hy146]; exact H) | exact H
               have Ny146 := Aside0.mk hy146
               clear hy146
               have H' := Aside0.mk H
               clear H
               have p128 : 0 ≤ (x22_2 : Int) := of_decide_eq_true (by first | (with_reducible assumption) | assumption)
               have q128 : x22_2 < (l0.length : Int) := of_decide_eq_true (by first | (with_reducible assumption) | assumption)
               obtain ⟨ad128, A128_1, c128_1, e128, hx128_0, hx128_1, hl128_1, hi128_1⟩ := at_T67 HR0.out x22_2 p128 q128
               cases e128
               replace hx128_0 := (HB.out.cell (World.block_lt_of_cell? w _ hx128_0)).trans hx128_0
               replace hx128_1 := (HB.out.cell (World.block_lt_of_cell? w _ hx128_1)).trans hx128_1
               have HR128_1 := Aside0.mk hi128_1
               have HC128_1 := Aside0.mk hl128_1
               clear hi128_1 hl128_1
               replace p128 := eq_true p128
               replace q128 := eq_true q128
               go_wp2_with (first | ((with_reducible refine gate_dst (N := 6) rfl ?_); refine box_event ?hg (N := 6) ?hd (cs := #[.int .u8 0, .slice none 0 0]) (t := 67) ?hr ?_; (case hd => rfl); (case hg => rfl); (case hr => first | (go_simp; done) | (go_simp; rfl)); intro gb129 hg w24 hbox hb; have n0_ := Aside0.mk (Kd.R_below (by (with_reducible repeat (first | apply Kd.R_alloc | apply Kd.R_drewN | apply Kd.R_drew)); exact HO_4.out) hb); have n1_ := Aside0.mk (below_step (by repeat (first | (with_reducible first | exact HB.out | apply below_alloc | apply pw_below_drewN | apply below_drew1) | exact HB.out)) hb); have n2_ := Aside0.mk (hbox); have n3_ := Aside0.mk ((by rw [hg]; exact (below_size (by repeat (first | (with_reducible first | exact HB.out | apply below_alloc | apply pw_below_drewN | apply below_drew1) | exact HB.out))) : w.heap.size ≤ gb129)); have n4_ := Aside0.mk ((by rw [hg]; exact (below_size (by repeat (first | (with_reducible first | exact HB.out | apply below_alloc | apply pw_below_drewN | apply below_drew1) | exact HB.out))) : w.heap.size ≤ gb129)); clear HO_4; clear HB; have HO_4 := n0_; have HB := n1_; have BK129 := n2_; have GW129 := n3_; have GE129 := n4_; clear n0_ n1_ n2_ n3_ n4_; clear hb hbox hg; have hcz25_0 : w24.cell? ⟨gb129, 0, none⟩ = some (.int .u8 0) := (blk_cell BK129.out 0).trans rfl; have hcz25_1 : w24.cell? ⟨gb129, 1, none⟩ = some (.slice none 0 0) := (blk_cell BK129.out 1).trans rfl; have hfz25_0 := blk_frozen BK129.out 0; have hfz25_1 := blk_frozen BK129.out 1) | ((with_reducible refine gate_dst (N := 28) rfl ?_); refine Kd.R_lit (Kd.int .u8) _ 5 ?hg (N := 28) ?hd (xs := ([128, (rd_T67 l0 x22_2).f0] : List Int)) (inner := [.int .u8 128, .int .u8 ((rd_T67 l0 x22_2).f0)]) (ok := fun _ => True) (okp := fun _ => True) ?hr ?hp (fun _ hk => hk) trivial (Below.refl _ _) (Nat.le_refl _) (by simp) ?_; (case hd => rfl); (case hg => rfl); (case hr => first | (go_simp; done) | (go_simp; rfl)); (case hp => exact (Reps.one (show Kd.M (Kd.int .u8) _ _ _ 128 [.int .u8 128] from rfl) (Reps.one (show Kd.M (Kd.int .u8) _ _ _ ((rd_T67 l0 x22_2).f0) [.int .u8 ((rd_T67 l0 x22_2).f0)] from rfl) (Reps.none _ _)))); intro v131 w26 ho27 hb hg_ hnew_; clear hg_ hnew_; (first | rw [← Ny130.out] at ho27 | (simp only [Int.reduceToNat] at ho27; rw [← Ny130.out] at ho27)); have n0_ := Aside0.mk (Kd.R_elder' (by (with_reducible repeat (first | apply Kd.R_alloc | apply Kd.R_drewN | apply Kd.R_drew)); exact (Kd.R_mono (Kd.R_far (p := ⟨gb129, 1, none⟩) (Kd.R_far (p := ⟨gb129, 0, none⟩) (Kd.R_types HO_4.out BK129.out (by decide)) (fun _ hk => hk.2) (.int .u8 ((rd_T67 l0 x22_2).f0))) (fun _ hk => hk.2) (.slice A128_1 ((rd_T67 l0 x22_2).f1).length c128_1)) (fun _ h_ => h_.1))) (Kd.R_base ho27) hb); have n1_ := Aside0.mk (Kd.R_lower (Kd.R_new' ho27 (Kd.R_lt (by (with_reducible repeat (first | apply Kd.R_alloc | apply Kd.R_drewN | apply Kd.R_drew)); exact (Kd.R_mono (Kd.R_far (p := ⟨gb129, 1, none⟩) (Kd.R_far (p := ⟨gb129, 0, none⟩) (Kd.R_types HO_4.out BK129.out (by decide)) (fun _ hk => hk.2) (.int .u8 ((rd_T67 l0 x22_2).f0))) (fun _ hk => hk.2) (.slice A128_1 ((rd_T67 l0 x22_2).f1).length c128_1)) (fun _ h_ => h_.1))))) (below_size (by repeat (first | (with_reducible first | exact HB.out | apply below_alloc | apply pw_below_drewN | apply below_drew1 | refine below_set ?_ GE129.out) | exact HB.out)))); have n2_ := Aside0.mk (blk_below (g := gb129) (o := .cells #[.int .u8 ((rd_T67 l0 x22_2).f0), .slice A128_1 ((rd_T67 l0 x22_2).f1).length c128_1] 67 (0, 0)) (by (with_reducible repeat (first | refine blk_drewN ?_ _ | refine blk_drew ?_ | refine blk_alloc ?_ _)); refine blk_put (cs := #[.int .u8 ((rd_T67 l0 x22_2).f0), .slice none 0 0]) ?_ 1 _ rfl; (with_reducible repeat (first | refine blk_drewN ?_ _ | refine blk_drew ?_ | refine blk_alloc ?_ _)); refine blk_put (cs := #[.int .u8 0, .slice none 0 0]) ?_ 0 _ rfl; (with_reducible repeat (first | refine blk_drewN ?_ _ | refine blk_drew ?_ | refine blk_alloc ?_ _)); exact BK129.out) hb); have n3_ := Aside0.mk (below_step (by repeat (first | (with_reducible first | exact HB.out | apply below_alloc | apply pw_below_drewN | apply below_drew1 | refine below_set ?_ GE129.out) | exact HB.out)) hb); clear HO_4; clear BK129; clear HB; have HO_4 := n0_; have HO132 := n1_; have BK129 := n2_; have HB := n3_; clear n0_ n1_ n2_ n3_; clear hb ho27; have hcz28_0 : w26.cell? ⟨gb129, 0, none⟩ = some (.int .u8 ((rd_T67 l0 x22_2).f0)) := (blk_cell BK129.out 0).trans rfl; have hcz28_1 : w26.cell? ⟨gb129, 1, none⟩ = some (.slice A128_1 ((rd_T67 l0 x22_2).f1).length c128_1) := (blk_cell BK129.out 1).trans rfl; have hfz28_0 := blk_frozen BK129.out 0; have hfz28_1 := blk_frozen BK129.out 1) | ((with_reducible refine gate_builtin (b := .append) (xs := #[.tmp 28, .tmp 30]) rfl ?_); at_builtin; refine Kd.R_append_rows (Kd.int .u8) (w0 := w) w.heap.size rfl (.tmp 28) (.tmp 30) 36 5 (.int .u8 0) 1 rfl Tryd.underlying36 info5 rfl (by decide) (by omega) v131 y130 ((rd_T67 l0 x22_2).f1) _ _ _ (fun k_ => some k_ ≠ (u4 : Value).ownBlock) (fun _ => False) rfl rfl ?aO ?aR (fun _ _ h => h) (fun _ h => h.elim) ?aF ?aB ?aS ?aL ?_; (case aR => repeat (first | exact (Kd.C_below HR128_1.out HB.out) | (with_reducible refine Kd.C_alloc ?_ _) | (with_reducible refine Kd.C_drewN ?_ _) | (with_reducible refine Kd.C_drew ?_))); (case aB => exact (by repeat (first | (with_reducible first | exact HB.out | apply below_alloc | apply pw_below_drewN | apply below_drew1 | refine below_set ?_ GE129.out) | exact HB.out))); (case aF => exact (fun k_ hk => Kd.fresh' (Kd.R_lt (by (with_reducible repeat (first | apply Kd.R_alloc | apply Kd.R_drewN | apply Kd.R_drew)); exact HO_4.out)) k_ hk)); (case aO => exact (by (with_reducible repeat (first | apply Kd.R_alloc | apply Kd.R_drewN | apply Kd.R_drew)); exact Kd.R_mono HO132.out (fun _ hk => hk.2))); (case aS => exact (below_size (by repeat (first | (with_reducible first | exact HB.out | apply below_alloc | apply pw_below_drewN | apply below_drew1 | refine below_set ?_ GE129.out) | exact HB.out)))); (case aL => have := LMc19.out; omega); intro v134 w29 ho hb hg hat; (first | rw [← Ny133.out] at ho | (simp only [Int.reduceToNat] at ho; rw [← Ny133.out] at ho)); have n0_ := Aside0.mk (Kd.R_after (ok := (fun _ => True)) (by (with_reducible repeat (first | apply Kd.R_alloc | apply Kd.R_drewN | apply Kd.R_drew)); exact HO_4.out) hg hat); have n1_ := Aside0.mk (blk_grown (g := gb129) (o := .cells #[.int .u8 ((rd_T67 l0 x22_2).f0), .slice A128_1 ((rd_T67 l0 x22_2).f1).length c128_1] 67 (0, 0)) (by (with_reducible repeat (first | refine blk_drewN ?_ _ | refine blk_drew ?_ | refine blk_alloc ?_ _)); exact BK129.out) hg (Kd.R_ne HO132.out BK129.out (by decide))); have n2_ := Aside0.mk (hb); have n3_ := Aside0.mk (ho); clear HO_4; clear BK129; clear HB; clear HO132; have HO_4 := n0_; have BK129 := n1_; have HB := n2_; have HO135 := n3_; clear n0_ n1_ n2_ n3_; clear ho hb hg hat; obtain ⟨Ao30, co30, eo30⟩ := Kd.R_slice HO135.out; subst eo30) | ((with_reducible refine gate_callee (f := 95) rfl ?_); refine goesL_ (some 33) rfl rfl Tryd.func95 (by kernel_rfl) rfl #[.slice Ao30 y133.length co30] rfl (by (try simp only [List.map_toArray, List.map_cons, List.map_nil]); first | done | rfl | (simp only [List.length_drop, List.length_take]; rfl)) ?_; (with_reducible refine (seal_Short.calls k2 _ _ y133 t136 _ ?side1 ?side2 A20.out).mono ?_); (case side1 => repeat (first | exact (Kd.R_reads' HO135.out).2.2 | (with_reducible refine Kd.C_alloc ?_ _) | (with_reducible refine Kd.C_drewN ?_ _) | (with_reducible refine Kd.C_drew ?_))); (case side2 => exact (Kd.R_reads' HO135.out).2.1); rintro e w' ⟨rfl, ⟨nd, rfl⟩⟩; refine ⟨_, rfl, ?_⟩) | ((with_reducible refine gate_builtin (b := .append) (xs := #[.tmp 34, .tmp 35]) rfl ?_); at_builtin; refine Kd.R_append_rows (Kd.int .u8) (w0 := w) w.heap.size rfl (.tmp 34) (.tmp 35) 36 5 (.int .u8 0) 1 rfl Tryd.underlying36 info5 rfl (by decide) (by omega) u4 x4_2 y133 _ _ _ (fun k_ => some k_ ≠ (.slice Ao30 y133.length co30 : Value).ownBlock) (fun _ => False) rfl rfl ?aO ?aR (fun _ _ h => h) (fun _ h => h.elim) ?aF ?aB ?aS ?aL ?_; (case aR => repeat (first | exact (Kd.R_reads' HO135.out).2.2 | (with_reducible refine Kd.C_alloc ?_ _) | (with_reducible refine Kd.C_drewN ?_ _) | (with_reducible refine Kd.C_drew ?_))); (case aB => exact (by repeat (first | (with_reducible first | exact HB.out | apply below_alloc | apply pw_below_drewN | apply below_drew1 | refine below_set ?_ GE129.out) | exact HB.out))); (case aF => exact (fun k_ hk => Kd.fresh' (Kd.R_lt (by (with_reducible repeat (first | apply Kd.R_alloc | apply Kd.R_drewN | apply Kd.R_drew)); exact HO135.out)) k_ hk)); (case aO => exact (by (with_reducible repeat (first | apply Kd.R_alloc | apply Kd.R_drewN | apply Kd.R_drew)); exact Kd.R_mono HO_4.out (fun _ hk => hk.2))); (case aS => exact (below_size (by repeat (first | (with_reducible first | exact HB.out | apply below_alloc | apply pw_below_drewN | apply below_drew1 | refine below_set ?_ GE129.out) | exact HB.out)))); (case aL => have := LMc21.out; omega); intro v138 w31 ho hb hg hat; (first | rw [← Ny137.out] at ho | (simp only [Int.reduceToNat] at ho; rw [← Ny137.out] at ho)); have n0_ := Aside0.mk (blk_grown (g := gb129) (o := .cells #[.int .u8 ((rd_T67 l0 x22_2).f0), .slice A128_1 ((rd_T67 l0 x22_2).f1).length c128_1] 67 (0, 0)) (by (with_reducible repeat (first | refine blk_drewN ?_ _ | refine blk_drew ?_ | refine blk_alloc ?_ _)); exact BK129.out) hg (Kd.R_ne HO_4.out BK129.out (by decide))); have n1_ := Aside0.mk (Kd.R_after (ok := (fun _ => True)) (by (with_reducible repeat (first | apply Kd.R_alloc | apply Kd.R_drewN | apply Kd.R_drew)); exact Kd.R_mono HO135.out (fun _ hk => ⟨trivial, hk⟩)) hg hat); have n2_ := Aside0.mk (hb); have n3_ := Aside0.mk (ho); clear BK129; clear HO135; clear HB; clear HO_4; have BK129 := n0_; have HO135 := n1_; have HB := n2_; have HO139 := n3_; clear n0_ n1_ n2_ n3_; clear ho hb hg hat) | ((with_reducible refine gate_dst (N := 42) rfl ?_); refine Kd.R_lit (Kd.int .u8) _ 5 ?hg (N := 42) ?hd (xs := ([(t136) % 256, (t136 / 256) % 256] : List Int)) (inner := [.int .u8 ((t136) % 256), .int .u8 ((t136 / 256) % 256)]) (ok := fun _ => True) (okp := fun _ => True) ?hr ?hp (fun _ hk => hk) trivial (Below.refl _ _) (Nat.le_refl _) (by simp) ?_; (case hd => rfl); (case hg => rfl); (case hr => first | (go_simp; done) | (go_simp; rfl)); (case hp => exact (Reps.one (show Kd.M (Kd.int .u8) _ _ _ ((t136) % 256) [.int .u8 ((t136) % 256)] from rfl) (Reps.one (show Kd.M (Kd.int .u8) _ _ _ ((t136 / 256) % 256) [.int .u8 ((t136 / 256) % 256)] from rfl) (Reps.none _ _)))); intro v141 w32 ho33 hb hg_ hnew_; clear hg_ hnew_; (first | rw [← Ny140.out] at ho33 | (simp only [Int.reduceToNat] at ho33; rw [← Ny140.out] at ho33)); have n0_ := Aside0.mk (Kd.R_elder' (by (with_reducible repeat (first | apply Kd.R_alloc | apply Kd.R_drewN | apply Kd.R_drew)); exact HO135.out) (Kd.R_base ho33) hb); have n1_ := Aside0.mk (Kd.R_elder' (by (with_reducible repeat (first | apply Kd.R_alloc | apply Kd.R_drewN | apply Kd.R_drew)); exact HO139.out) (Kd.R_base ho33) hb); have n2_ := Aside0.mk (Kd.R_lower (Kd.R_new' (Kd.R_new' ho33 (Kd.R_lt (by (with_reducible repeat (first | apply Kd.R_alloc | apply Kd.R_drewN | apply Kd.R_drew)); exact HO135.out))) (Kd.R_lt (by (with_reducible repeat (first | apply Kd.R_alloc | apply Kd.R_drewN | apply Kd.R_drew)); exact HO139.out))) (below_size (by repeat (first | (with_reducible first | exact HB.out | apply below_alloc | apply pw_below_drewN | apply below_drew1 | refine below_set ?_ GE129.out) | exact HB.out)))); have n3_ := Aside0.mk (blk_below (g := gb129) (o := .cells #[.int .u8 ((rd_T67 l0 x22_2).f0), .slice A128_1 ((rd_T67 l0 x22_2).f1).length c128_1] 67 (0, 0)) (by (with_reducible repeat (first | refine blk_drewN ?_ _ | refine blk_drew ?_ | refine blk_alloc ?_ _)); exact BK129.out) hb); have n4_ := Aside0.mk (below_step (by repeat (first | (with_reducible first | exact HB.out | apply below_alloc | apply pw_below_drewN | apply below_drew1 | refine below_set ?_ GE129.out) | exact HB.out)) hb); clear HO135; clear HO139; clear BK129; clear HB; have HO135 := n0_; have HO139 := n1_; have HO142 := n2_; have BK129 := n3_; have HB := n4_; clear n0_ n1_ n2_ n3_ n4_; clear hb ho33; obtain ⟨Ao35, co35, eo35⟩ := Kd.R_slice HO142.out; subst eo35) | ((with_reducible refine gate_builtin (b := .append) (xs := #[.tmp 36, .tmp 42]) rfl ?_); at_builtin; refine Kd.R_append_rows (Kd.int .u8) (w0 := w) w.heap.size rfl (.tmp 36) (.tmp 42) 36 5 (.int .u8 0) 1 rfl Tryd.underlying36 info5 rfl (by decide) (by omega) v138 y137 y140 _ _ _ (fun k_ => some k_ ≠ (.slice Ao30 y133.length co30 : Value).ownBlock ∧ some k_ ≠ (.slice Ao35 y140.length co35 : Value).ownBlock) (fun _ => False) rfl rfl ?aO ?aR (fun _ _ h => h) (fun _ h => h.elim) ?aF ?aB ?aS ?aL ?_; (case aR => repeat (first | exact (Kd.R_reads' HO142.out).2.2 | (with_reducible refine Kd.C_alloc ?_ _) | (with_reducible refine Kd.C_drewN ?_ _) | (with_reducible refine Kd.C_drew ?_))); (case aB => exact (by repeat (first | (with_reducible first | exact HB.out | apply below_alloc | apply pw_below_drewN | apply below_drew1 | refine below_set ?_ GE129.out) | exact HB.out))); (case aF => exact (fun k_ hk => ⟨Kd.fresh' (Kd.R_lt (by (with_reducible repeat (first | apply Kd.R_alloc | apply Kd.R_drewN | apply Kd.R_drew)); exact HO135.out)) k_ hk, Kd.fresh' (Kd.R_lt (by (with_reducible repeat (first | apply Kd.R_alloc | apply Kd.R_drewN | apply Kd.R_drew)); exact HO142.out)) k_ hk⟩)); (case aO => exact (by (with_reducible repeat (first | apply Kd.R_alloc | apply Kd.R_drewN | apply Kd.R_drew)); exact HO139.out)); (case aS => exact (below_size (by repeat (first | (with_reducible first | exact HB.out | apply below_alloc | apply pw_below_drewN | apply below_drew1 | refine below_set ?_ GE129.out) | exact HB.out)))); (case aL => have := LMc22.out; omega); intro v144 w34 ho hb hg hat; (first | rw [← Ny143.out] at ho | (simp only [Int.reduceToNat] at ho; rw [← Ny143.out] at ho)); have n0_ := Aside0.mk (blk_grown (g := gb129) (o := .cells #[.int .u8 ((rd_T67 l0 x22_2).f0), .slice A128_1 ((rd_T67 l0 x22_2).f1).length c128_1] 67 (0, 0)) (by (with_reducible repeat (first | refine blk_drewN ?_ _ | refine blk_drew ?_ | refine blk_alloc ?_ _)); exact BK129.out) hg (Kd.R_ne HO139.out BK129.out (by decide))); have n1_ := Aside0.mk (Kd.R_after (ok := (fun k_ => some k_ ≠ (.slice Ao35 y140.length co35 : Value).ownBlock)) (by (with_reducible repeat (first | apply Kd.R_alloc | apply Kd.R_drewN | apply Kd.R_drew)); exact Kd.R_mono HO135.out (fun _ hk => ⟨hk.2, hk.1.2⟩)) hg hat); have n2_ := Aside0.mk (Kd.R_after (ok := (fun k_ => some k_ ≠ (.slice Ao30 y133.length co30 : Value).ownBlock)) (by (with_reducible repeat (first | apply Kd.R_alloc | apply Kd.R_drewN | apply Kd.R_drew)); exact Kd.R_mono HO142.out (fun _ hk => ⟨hk.1.2, hk.2⟩)) hg hat); have n3_ := Aside0.mk (hb); have n4_ := Aside0.mk (ho); clear BK129; clear HO135; clear HO142; clear HB; clear HO139; have BK129 := n0_; have HO135 := n1_; have HO142 := n2_; have HB := n3_; have HO145 := n4_; clear n0_ n1_ n2_ n3_ n4_; clear ho hb hg hat) | (at_builtin; refine Kd.R_append_zeros (Kd.int .u8) (w0 := w) w.heap.size rfl (.tmp 44) (.const (.int .i64 120)) 36 3 5 (.int .u8 0) 1 rfl Tryd.underlying36 Tryd.underlying3 info5 rfl (by decide) (by omega) v144 y143 0 (120 : Int) (fun k_ => some k_ ≠ (.slice Ao30 y133.length co30 : Value).ownBlock ∧ some k_ ≠ (.slice Ao35 y140.length co35 : Value).ownBlock) rfl rfl rfl ?aF ?aO (by omega) ?aB ?aS ?aL ?_; (case aB => exact (by repeat (first | (with_reducible first | exact HB.out | apply below_alloc | apply pw_below_drewN | apply below_drew1 | refine below_set ?_ GE129.out) | exact HB.out))); (case aF => exact (fun k_ hk => ⟨Kd.fresh' (Kd.R_lt (by (with_reducible repeat (first | apply Kd.R_alloc | apply Kd.R_drewN | apply Kd.R_drew)); exact HO135.out)) k_ hk, Kd.fresh' (Kd.R_lt (by (with_reducible repeat (first | apply Kd.R_alloc | apply Kd.R_drewN | apply Kd.R_drew)); exact HO142.out)) k_ hk⟩)); (case aO => exact (by (with_reducible repeat (first | apply Kd.R_alloc | apply Kd.R_drewN | apply Kd.R_drew)); exact HO145.out)); (case aS => exact (below_size (by repeat (first | (with_reducible first | exact HB.out | apply below_alloc | apply pw_below_drewN | apply below_drew1 | refine below_set ?_ GE129.out) | exact HB.out)))); (case aL => have := LMc23.out; omega); intro v147 w36 ho hb hg hat; (first | rw [← Ny146.out] at ho | (simp only [Int.reduceToNat] at ho; rw [← Ny146.out] at ho)); have n0_ := Aside0.mk (blk_grown (g := gb129) (o := .cells #[.int .u8 ((rd_T67 l0 x22_2).f0), .slice A128_1 ((rd_T67 l0 x22_2).f1).length c128_1] 67 (0, 0)) (by (with_reducible repeat (first | refine blk_drewN ?_ _ | refine blk_drew ?_ | refine blk_alloc ?_ _)); exact BK129.out) hg (Kd.R_ne HO145.out BK129.out (by decide))); have n1_ := Aside0.mk (Kd.R_after (ok := (fun k_ => some k_ ≠ (.slice Ao35 y140.length co35 : Value).ownBlock)) (by (with_reducible repeat (first | apply Kd.R_alloc | apply Kd.R_drewN | apply Kd.R_drew)); exact HO135.out) hg hat); have n2_ := Aside0.mk (Kd.R_after (ok := (fun k_ => some k_ ≠ (.slice Ao30 y133.length co30 : Value).ownBlock)) (by (with_reducible repeat (first | apply Kd.R_alloc | apply Kd.R_drewN | apply Kd.R_drew)); exact HO142.out) hg hat); have n3_ := Aside0.mk (hb); have n4_ := Aside0.mk (ho); clear BK129; clear HO135; clear HO142; clear HB; clear HO145; have BK129 := n0_; have HO135 := n1_; have HO142 := n2_; have HB := n3_; have HO148 := n4_; clear n0_ n1_ n2_ n3_ n4_; clear ho hb hg hat))
               go_roundg k2
               case measure => have := HJ1.out; have := HK2.out; omega
               case rel => exact ⟨(y146), (wrap64 (x22_2 + 1)), (by first | rfl | (simp; done) | (simp [*]; done)), H', ⟨by have := HJ1.out; have := HK2.out; omega⟩, ⟨by (with_reducible repeat (first | apply Kd.R_alloc | apply Kd.R_drewN | apply Kd.R_drew)); exact Kd.R_mono HO148.out (fun _ hk => trivial)⟩, ⟨by repeat (first | (with_reducible first | exact HB.out | apply below_alloc | apply pw_below_drewN | apply below_drew1 | refine below_set ?_ GE129.out) | exact HB.out)⟩⟩
              ·rw [if_neg c23] at H
               exact absurd H (by simp)
             ·rw [if_neg c22] at H
              exact absurd H (by simp)
            ·rw [if_neg c21] at H
             exact absurd H (by simp)
           ·rw [if_neg c19] at H
            exact absurd H (by simp)
          ·rw [if_neg c18] at H
           exact absurd H (by simp)
         ·rw [if_neg c17] at H
          exact absurd H (by simp)
        ·rw [if_neg c16] at H
         have c16b0 : decide (x22_2 < (l0.length : Int)) = false := decide_eq_false c16
         clear c16
         simp only [Option.some.injEq, Prod.mk.injEq] at H
         obtain ⟨rfl, rfl⟩ := H
         go_wp2
         go_ret2
         exact ⟨_, by first | rfl | (simp [errW_none, errW_some] <;> rfl) | (simp [*, errW_none, errW_some] <;> rfl), by (with_reducible repeat (first | apply Kd.R_alloc | apply Kd.R_drewN | apply Kd.R_drew)); exact HO_4.out, by repeat (first | (with_reducible first | exact HB.out | apply below_alloc | apply pw_below_drewN | apply below_drew1) | exact HB.out)⟩
     ·rw [if_neg c12] at H
      exact absurd H (by simp)
    ·rw [if_neg c11] at H
     exact absurd H (by simp)

end Go.Proofs.YtaiaapjlpbhlbaaDoor.PAdapterReads
