-- made by a program of this repo (wip/patch_print.py); not trusted: Lean checks it
import Derived.Test.YtgpgoffnfdjhcaaPBlockSidesx0
import Derived.Test.YtgpgoffnfdjhcaaPBlockSidesx1
import Derived.Test.YtgpgoffnfdjhcaaPBlockSidesx4
namespace Go.Proofs.Ytgpgoffnfdjhcaa.PBlockSides
open Go.RowKit Go.Proofs.YtgpgoffnfdjhcaaW.PrintWords Go.Proofs.YtgpgoffnfdjhcaaW.PrintLast Go.Proofs.YtgpgoffnfdjhcaaW.PrintMore
attribute [local go_sem] max2_int min2_int max_two min_two max_three min_three max_four min_four   -- for this text's walks alone
set_option linter.unusedVariables false
set_option linter.unusedSimpArgs false

/-! ### kotatsulaw05_made: function 19 -/
def kotatsulaw05_made.l0 : Nat → ByteArray → Int → Int → List (List (S43)) → List (S48) → Int → Int → Option ((List (S43)))
  | 0, _, _, _, _, _, _, _ => none
  | k + 1, x0, x1, x3, x9, x13, x14, x15 => if x15 < x14 then (if 0 ≤ x15 then (if x15 < (x13.length : Int) then (if x15 < 8 then ((kotatsuref01_Text.f ((rd_T48 x13 x15).f3) 20).bind fun t208 => ((kotatsuref01_Cut.f k ((rd_T48 x13 x15).f5) 300).bind fun t209 => ((block_File.f ((rd_T48 x13 x15).f0) ((rd_T48 x13 x15).f1) t208 ((rd_T48 x13 x15).f4) ((rd_T48 x13 x15).f2) t209).bind fun t212 => (if x9.length < 5864062014805 then (kotatsulaw05_made.l0 k x0 x1 x3 (x9 ++ [t212]) x13 x14 (wrap64 (x15 + 1))) else (none))))) else (kotatsulaw05_made.l0 k x0 x1 x3 x9 x13 x14 (wrap64 (x15 + 1)))) else (none)) else (none)) else ((kotatsuref01_Text.f x0 20).bind fun t199 => ((block_Disk.f t199 x1 x9).bind fun t200 => (if 0 ≤ (mx 0 (wrap64 ((t200.length : Int) - (wrap64 (Int.tmod x3 5))))) then (if (mx 0 (wrap64 ((t200.length : Int) - (wrap64 (Int.tmod x3 5))))) ≤ (t200.length : Int) then (some (t200.take ((mx 0 (wrap64 ((t200.length : Int) - (wrap64 (Int.tmod x3 5))))) : Int).toNat)) else (none)) else (none))))
def kotatsulaw05_made.f (k : Nat) (a0 : ByteArray) (a1 : Int) (l2 : List (S48)) (a3 : Int) : Option ((List (S43))) := kotatsulaw05_made.l0 k a0 a1 a3 ([] : List (List (S43))) l2 (l2.length : Int) 0
theorem kotatsulaw05_made.mono_l : ∀ k, (∀ y0 y1 y2 y3 y4 y5 y6, LeO (kotatsulaw05_made.l0 k y0 y1 y2 y3 y4 y5 y6) (kotatsulaw05_made.l0 (k + 1) y0 y1 y2 y3 y4 y5 y6))
  | 0 => fun _ _ _ _ _ _ _ r h => by simp [kotatsulaw05_made.l0] at h
  | k + 1 => by
    have ih0 := kotatsulaw05_made.mono_l k
    · intro y0 y1 y2 y3 y4 y5 y6
      unfold kotatsulaw05_made.l0
      repeat' first
      | (with_reducible exact ih0 _ _ _ _ _ _ _)
      | (with_reducible exact kotatsuref01_Cut.mono _ _ _)
      | (with_reducible exact LeO.refl _)
      | (with_reducible exact LeO.none _)
      | (with_reducible refine LeO.ite ?_ ?_)
      | (with_reducible refine LeO.bind ?_ (fun _ => ?_))
      | exact ih0 _ _ _ _ _ _ _
      | exact kotatsuref01_Cut.mono _ _ _
      | exact LeO.none _
      | refine LeO.ite ?_ ?_
      | refine LeO.bind ?_ (fun _ => ?_)
theorem kotatsulaw05_made.mono : ∀ a0 a1 a2 a3 k, LeO (kotatsulaw05_made.f k a0 a1 a2 a3) (kotatsulaw05_made.f (k + 1) a0 a1 a2 a3) := by
  intro a0 a1 a2 a3 k
  have ih0 := kotatsulaw05_made.mono_l k
  unfold kotatsulaw05_made.f
  repeat' first
      | (with_reducible exact ih0 _ _ _ _ _ _ _)
      | (with_reducible exact kotatsuref01_Cut.mono _ _ _)
      | (with_reducible exact LeO.refl _)
      | (with_reducible exact LeO.none _)
      | (with_reducible refine LeO.ite ?_ ?_)
      | (with_reducible refine LeO.bind ?_ (fun _ => ?_))
      | exact ih0 _ _ _ _ _ _ _
      | exact kotatsuref01_Cut.mono _ _ _
      | exact LeO.none _
      | refine LeO.ite ?_ ?_
      | refine LeO.bind ?_ (fun _ => ?_)
def kotatsulaw05_made.T6 : Bool × List (List Nat × List Nat) := (true, [([], []), ([], []), ([1], [1]), ([], []), ([3], [3]), ([], []), ([5], [5]), ([6], [6]), ([], []), ([8], [8]), ([], []), ([10], [10]), ([], []), ([12], [12]), ([13, 7], [13]), ([2, 4, 7, 9, 11, 14, 14], [2, 4, 7, 9, 11, 14]), ([15], [15]), ([0, 16, 15], [0, 16]), ([17, 17, 0, 1, 2, 3, 4, 5, 6, 7, 8, 9, 10, 11, 12, 13, 14, 15, 16, 17], [0, 17])])
def kotatsulaw05_made.B6 : List Nat := [0, 0, 2, 0, 8, 0, 32, 96, 0, 256, 0, 1024, 0, 4096, 12512, 32766, 65534, 131071, 262143]
theorem kotatsulaw05_made.tab6 : rtab .any (opsOf Try.f19 6) = kotatsulaw05_made.T6 := by kernel_rfl
theorem kotatsulaw05_made.bits6 : waitsOk kotatsulaw05_made.T6.2 kotatsulaw05_made.B6 = true := by kernel_rfl
set_option maxHeartbeats 8000000 in
set_option maxRecDepth 100000 in
theorem kotatsulaw05_made.calls (k : Nat) (a0 : ByteArray) (a1 : Int) (A2 : Option Addr) (c2 : Nat) (l2 : List (S48)) (a3 : Int) (r : List (S43)) (w : World) (hr2 : Kd.C k48 w A2 l2.length l2) (hc2 : l2.length ≤ c2) (h : kotatsulaw05_made.f k a0 a1 l2 a3 = some r) :
    Calls Try.prog 19 #[.string a0, .int .u8 a1, .slice A2 l2.length c2, .int .u8 a3] w fun e w' => ∃ v0_ : Value, e = .returned (v0_) ∧ Kd.N k43 43 w' w.heap.size (fun k_ => (w.heap.size ≤ k_)) v0_ r ∧ Below w.heap.size w w' := by
  have hu48 := Try.underlying48
  have HR2 := Aside0.mk hr2
  have HC2 := Aside0.mk hc2
  clear hr2 hc2
  have HB := Aside0.mk (Below.refl w.heap.size w)
  have H : (kotatsulaw05_made.l0 k a0 a1 a3 ([] : List (List (S43))) l2 (l2.length : Int) 0) = some r := h
  clear h
  have H' := Aside0.mk H
  clear H
  go_enter Try.func19, Try.ntmps19
  go_wp2
  go_loopg [9, 15] k (fun kq v9 v15 w' => ∃ (x9_1 : List (List (S43))) (x15_1 : Int), v15 = .int .i64 x15_1 ∧ Aside0 (kotatsulaw05_made.l0 kq a0 a1 a3 x9_1 l2 (l2.length : Int) x15_1 = some r) ∧ Aside0 (kq ≤ k) ∧ Aside0 (Kd.N (Kd.slice 43 k43) 29 w' w.heap.size (fun k_ => (w.heap.size ≤ k_)) v9 x9_1) ∧ Aside0 (Below w.heap.size w w'))
  case atStart => exact ⟨(([] : List (List (S43)))), (0), (by first | rfl | (simp; done) | (simp [*]; done)), H', ⟨Nat.le_refl _⟩, ⟨by first | exact Kd.R_nil _ _ _ _ _ | exact Kd.N_nil _ _ _ _ _ | exact Kd.V_nil _ _ _ _ _ | exact Kd.Q_nil _ _ _ _ _ | exact Kd.S_nil _ _ _ _ _⟩, ⟨by repeat (first | (with_reducible first | exact HB.out | apply below_alloc | apply pw_below_drewN | apply below_drew1) | exact HB.out)⟩⟩
  case round =>
    clear H'
    try clear c1
    try clear c2
    try clear p2
    obtain ⟨x9_1, x15_1, rfl, HA, HK1, HO_9, HB⟩ := hrel
    cases gk with
    | zero => exact absurd HA.out (by simp [kotatsulaw05_made.l0])
    | succ k1 =>
      have H := HA.out
      clear HA
      simp only [kotatsulaw05_made.l0] at H
      by_cases c5 : x15_1 < (l2.length : Int)
      · rw [if_pos c5] at H
        have c5b0 : decide (x15_1 < (l2.length : Int)) = true := decide_eq_true c5
        clear c5
        by_cases c6 : 0 ≤ x15_1
        · rw [if_pos c6] at H
          have c6b0 : decide (0 ≤ x15_1) = true := decide_eq_true c6
          clear c6
          by_cases c7 : x15_1 < (l2.length : Int)
          · rw [if_pos c7] at H
            have c7b0 : decide (x15_1 < (l2.length : Int)) = true := decide_eq_true c7
            clear c7
            by_cases c8 : x15_1 < 8
            · rw [if_pos c8] at H
              have c8b0 : decide (x15_1 < 8) = true := decide_eq_true c8
              clear c8
              replace H := Option.bind_eq_some_iff.mp H
              obtain ⟨t208, A90, H⟩ := H
              replace H : ((kotatsuref01_Cut.f k1 ((rd_T48 l2 x15_1).f5) 300).bind fun t209 => ((block_File.f ((rd_T48 l2 x15_1).f0) ((rd_T48 l2 x15_1).f1) t208 ((rd_T48 l2 x15_1).f4) ((rd_T48 l2 x15_1).f2) t209).bind fun t212 => (if x9_1.length < 5864062014805 then (kotatsulaw05_made.l0 k1 a0 a1 a3 (x9_1 ++ [t212]) l2 (l2.length : Int) (wrap64 (x15_1 + 1))) else (none)))) = some r := H
              have A9 := Aside0.mk A90
              clear A90
              replace H := Option.bind_eq_some_iff.mp H
              obtain ⟨t209, A100, H⟩ := H
              replace H : ((block_File.f ((rd_T48 l2 x15_1).f0) ((rd_T48 l2 x15_1).f1) t208 ((rd_T48 l2 x15_1).f4) ((rd_T48 l2 x15_1).f2) t209).bind fun t212 => (if x9_1.length < 5864062014805 then (kotatsulaw05_made.l0 k1 a0 a1 a3 (x9_1 ++ [t212]) l2 (l2.length : Int) (wrap64 (x15_1 + 1))) else (none))) = some r := H
              have A10 := Aside0.mk A100
              clear A100
              replace H := Option.bind_eq_some_iff.mp H
              obtain ⟨t212, A110, H⟩ := H
              replace H : (if x9_1.length < 5864062014805 then (kotatsulaw05_made.l0 k1 a0 a1 a3 (x9_1 ++ [t212]) l2 (l2.length : Int) (wrap64 (x15_1 + 1))) else (none)) = some r := H
              have A11 := Aside0.mk A110
              clear A110
              by_cases c12 : x9_1.length < 5864062014805
              · rw [if_pos c12] at H
                have LMc12 := Aside0.mk c12
                clear c12
                obtain ⟨y215, hy215⟩ : ∃ y_ : List (List (S43)), y_ = (x9_1 ++ [t212]) := ⟨_, rfl⟩
                replace H : (kotatsulaw05_made.l0 k1 a0 a1 a3 y215 l2 (l2.length : Int) (wrap64 (x15_1 + 1))) = some r := by first | (rw [hy215]; with_reducible exact H) | (have H2_ := (Option.bind_some _ _).symm.trans H; rw [hy215]; with_reducible exact H2_) | (have H2_ := (Option.bind_some _ _).symm.trans H; with_reducible exact H2_) | with_reducible exact H | (rw [hy215]; exact H) | exact H
                have Ny215 := Aside0.mk hy215
                clear hy215
                have H' := Aside0.mk H
                clear H
                have p206 : 0 ≤ (x15_1 : Int) := of_decide_eq_true (by first | (with_reducible assumption) | assumption)
                have q206 : x15_1 < (l2.length : Int) := of_decide_eq_true (by first | (with_reducible assumption) | assumption)
                obtain ⟨ad206, A206_5, c206_5, e206, hx206_0, hx206_1, hx206_2, hx206_3, hx206_4, hx206_5, hl206_5, hi206_5⟩ := at_T48 HR2.out x15_1 p206 q206
                cases e206
                replace hx206_0 := (HB.out.cell (World.block_lt_of_cell? w _ hx206_0)).trans hx206_0
                replace hx206_1 := (HB.out.cell (World.block_lt_of_cell? w _ hx206_1)).trans hx206_1
                replace hx206_2 := (HB.out.cell (World.block_lt_of_cell? w _ hx206_2)).trans hx206_2
                replace hx206_3 := (HB.out.cell (World.block_lt_of_cell? w _ hx206_3)).trans hx206_3
                replace hx206_4 := (HB.out.cell (World.block_lt_of_cell? w _ hx206_4)).trans hx206_4
                replace hx206_5 := (HB.out.cell (World.block_lt_of_cell? w _ hx206_5)).trans hx206_5
                have HR206_5 := Aside0.mk hi206_5
                have HC206_5 := Aside0.mk hl206_5
                clear hi206_5 hl206_5
                replace p206 := eq_true p206
                replace q206 := eq_true q206
                try go_wp2_with (first | ((with_reducible refine gate_dst (N := 11) rfl ?_); refine box_event ?hg (N := 11) ?hd (cs := #[.int .u8 0, .int .u8 0, .int .u8 0, .string (⟨#[]⟩ : ByteArray), .int .u16 0, .slice none 0 0]) (t := 48) ?hr ?_; (case hd => rfl); (case hg => rfl); (case hr => first | (go_simp; done) | (go_simp; rfl)); intro gb207 hg w13 hbox hb; have n0_ := Aside0.mk (Kd.N_below (Kd.N_elderB (by (with_reducible repeat (first | apply Kd.N_alloc | apply Kd.N_drewN | apply Kd.N_drew)); exact HO_9.out) gb207 (Nat.le_of_eq hg.symm)) hb); have n1_ := Aside0.mk (below_step (by repeat (first | (with_reducible first | exact HB.out | apply below_alloc | apply pw_below_drewN | apply below_drew1) | exact HB.out)) hb); have n2_ := Aside0.mk (hbox); have n3_ := Aside0.mk ((by rw [hg]; exact (below_size (by repeat (first | (with_reducible first | exact HB.out | apply below_alloc | apply pw_below_drewN | apply below_drew1) | exact HB.out))) : w.heap.size ≤ gb207)); have n4_ := Aside0.mk ((by rw [hg]; exact (below_size (by repeat (first | (with_reducible first | exact HB.out | apply below_alloc | apply pw_below_drewN | apply below_drew1) | exact HB.out))) : w.heap.size ≤ gb207)); clear HO_9; clear HB; have HO_9 := n0_; have HB := n1_; have BK207 := n2_; have GW207 := n3_; have GE207 := n4_; clear n0_ n1_ n2_ n3_ n4_; clear hb hbox hg; have hcz14_0 : w13.cell? ⟨gb207, 0, none⟩ = some (.int .u8 0) := (blk_cell BK207.out 0).trans rfl; have hcz14_1 : w13.cell? ⟨gb207, 1, none⟩ = some (.int .u8 0) := (blk_cell BK207.out 1).trans rfl; have hcz14_2 : w13.cell? ⟨gb207, 2, none⟩ = some (.int .u8 0) := (blk_cell BK207.out 2).trans rfl; have hcz14_3 : w13.cell? ⟨gb207, 3, none⟩ = some (.string (⟨#[]⟩ : ByteArray)) := (blk_cell BK207.out 3).trans rfl; have hcz14_4 : w13.cell? ⟨gb207, 4, none⟩ = some (.int .u16 0) := (blk_cell BK207.out 4).trans rfl; have hcz14_5 : w13.cell? ⟨gb207, 5, none⟩ = some (.slice none 0 0) := (blk_cell BK207.out 5).trans rfl; have hfz14_0 := blk_frozen BK207.out 0; have hfz14_1 := blk_frozen BK207.out 1; have hfz14_2 := blk_frozen BK207.out 2; have hfz14_3 := blk_frozen BK207.out 3; have hfz14_4 := blk_frozen BK207.out 4; have hfz14_5 := blk_frozen BK207.out 5))
                have n0_ : Aside0 (Kd.N (Kd.slice 43 k43) 29 ((((((w13.setCell ⟨gb207, 0, none⟩ (.int .u8 ((rd_T48 l2 x15_1).f0))).setCell ⟨gb207, 1, none⟩ (.int .u8 ((rd_T48 l2 x15_1).f1))).setCell ⟨gb207, 2, none⟩ (.int .u8 ((rd_T48 l2 x15_1).f2))).setCell ⟨gb207, 3, none⟩ (.string ((rd_T48 l2 x15_1).f3))).setCell ⟨gb207, 4, none⟩ (.int .u16 ((rd_T48 l2 x15_1).f4))).setCell ⟨gb207, 5, none⟩ (.slice A206_5 ((rd_T48 l2 x15_1).f5).length c206_5)) w.heap.size (fun k_ => (w.heap.size ≤ k_) ∧ k_ ≠ gb207) u9 x9_1) := ⟨by (with_reducible repeat (first | apply Kd.N_alloc | apply Kd.N_drewN | apply Kd.N_drew)); exact Kd.N_mono (Kd.N_far (p := ⟨gb207, 5, none⟩) (Kd.N_far (p := ⟨gb207, 4, none⟩) (Kd.N_far (p := ⟨gb207, 3, none⟩) (Kd.N_far (p := ⟨gb207, 2, none⟩) (Kd.N_far (p := ⟨gb207, 1, none⟩) (Kd.N_far (p := ⟨gb207, 0, none⟩) (Kd.N_mono HO_9.out (fun k_ hk => (⟨hk, hk.2⟩ : _ ∧ k_ ≠ gb207))) (fun _ hk => hk.2) (.int .u8 ((rd_T48 l2 x15_1).f0))) (fun _ hk => hk.2) (.int .u8 ((rd_T48 l2 x15_1).f1))) (fun _ hk => hk.2) (.int .u8 ((rd_T48 l2 x15_1).f2))) (fun _ hk => hk.2) (.string ((rd_T48 l2 x15_1).f3))) (fun _ hk => hk.2) (.int .u16 ((rd_T48 l2 x15_1).f4))) (fun _ hk => hk.2) (.slice A206_5 ((rd_T48 l2 x15_1).f5).length c206_5)) (fun _ hk => ⟨hk.1.1, hk.1.2⟩)⟩
                have n1_ : Aside0 (((((((w13.setCell ⟨gb207, 0, none⟩ (.int .u8 ((rd_T48 l2 x15_1).f0))).setCell ⟨gb207, 1, none⟩ (.int .u8 ((rd_T48 l2 x15_1).f1))).setCell ⟨gb207, 2, none⟩ (.int .u8 ((rd_T48 l2 x15_1).f2))).setCell ⟨gb207, 3, none⟩ (.string ((rd_T48 l2 x15_1).f3))).setCell ⟨gb207, 4, none⟩ (.int .u16 ((rd_T48 l2 x15_1).f4))).setCell ⟨gb207, 5, none⟩ (.slice A206_5 ((rd_T48 l2 x15_1).f5).length c206_5)).heap[gb207]? = some (.cells #[.int .u8 ((rd_T48 l2 x15_1).f0), .int .u8 ((rd_T48 l2 x15_1).f1), .int .u8 ((rd_T48 l2 x15_1).f2), .string ((rd_T48 l2 x15_1).f3), .int .u16 ((rd_T48 l2 x15_1).f4), .slice A206_5 ((rd_T48 l2 x15_1).f5).length c206_5] 48 (0, 0))) := ⟨by (with_reducible repeat (first | refine blk_drewN ?_ _ | refine blk_drew ?_ | refine blk_alloc ?_ _)); refine blk_put (cs := #[.int .u8 ((rd_T48 l2 x15_1).f0), .int .u8 ((rd_T48 l2 x15_1).f1), .int .u8 ((rd_T48 l2 x15_1).f2), .string ((rd_T48 l2 x15_1).f3), .int .u16 ((rd_T48 l2 x15_1).f4), .slice none 0 0]) ?_ 5 _ rfl; (with_reducible repeat (first | refine blk_drewN ?_ _ | refine blk_drew ?_ | refine blk_alloc ?_ _)); refine blk_put (cs := #[.int .u8 ((rd_T48 l2 x15_1).f0), .int .u8 ((rd_T48 l2 x15_1).f1), .int .u8 ((rd_T48 l2 x15_1).f2), .string ((rd_T48 l2 x15_1).f3), .int .u16 0, .slice none 0 0]) ?_ 4 _ rfl; (with_reducible repeat (first | refine blk_drewN ?_ _ | refine blk_drew ?_ | refine blk_alloc ?_ _)); refine blk_put (cs := #[.int .u8 ((rd_T48 l2 x15_1).f0), .int .u8 ((rd_T48 l2 x15_1).f1), .int .u8 ((rd_T48 l2 x15_1).f2), .string (⟨#[]⟩ : ByteArray), .int .u16 0, .slice none 0 0]) ?_ 3 _ rfl; (with_reducible repeat (first | refine blk_drewN ?_ _ | refine blk_drew ?_ | refine blk_alloc ?_ _)); refine blk_put (cs := #[.int .u8 ((rd_T48 l2 x15_1).f0), .int .u8 ((rd_T48 l2 x15_1).f1), .int .u8 0, .string (⟨#[]⟩ : ByteArray), .int .u16 0, .slice none 0 0]) ?_ 2 _ rfl; (with_reducible repeat (first | refine blk_drewN ?_ _ | refine blk_drew ?_ | refine blk_alloc ?_ _)); refine blk_put (cs := #[.int .u8 ((rd_T48 l2 x15_1).f0), .int .u8 0, .int .u8 0, .string (⟨#[]⟩ : ByteArray), .int .u16 0, .slice none 0 0]) ?_ 1 _ rfl; (with_reducible repeat (first | refine blk_drewN ?_ _ | refine blk_drew ?_ | refine blk_alloc ?_ _)); refine blk_put (cs := #[.int .u8 0, .int .u8 0, .int .u8 0, .string (⟨#[]⟩ : ByteArray), .int .u16 0, .slice none 0 0]) ?_ 0 _ rfl; (with_reducible repeat (first | refine blk_drewN ?_ _ | refine blk_drew ?_ | refine blk_alloc ?_ _)); exact BK207.out⟩
                have n2_ : Aside0 (Below w.heap.size w ((((((w13.setCell ⟨gb207, 0, none⟩ (.int .u8 ((rd_T48 l2 x15_1).f0))).setCell ⟨gb207, 1, none⟩ (.int .u8 ((rd_T48 l2 x15_1).f1))).setCell ⟨gb207, 2, none⟩ (.int .u8 ((rd_T48 l2 x15_1).f2))).setCell ⟨gb207, 3, none⟩ (.string ((rd_T48 l2 x15_1).f3))).setCell ⟨gb207, 4, none⟩ (.int .u16 ((rd_T48 l2 x15_1).f4))).setCell ⟨gb207, 5, none⟩ (.slice A206_5 ((rd_T48 l2 x15_1).f5).length c206_5))) := ⟨by repeat (first | (with_reducible first | exact HB.out | apply below_alloc | apply pw_below_drewN | apply below_drew1 | refine below_set ?_ GE207.out) | exact HB.out)⟩
                (try clear HO_9)
                (try clear BK207)
                (try clear HB)
                generalize ((((((w13.setCell ⟨gb207, 0, none⟩ (.int .u8 ((rd_T48 l2 x15_1).f0))).setCell ⟨gb207, 1, none⟩ (.int .u8 ((rd_T48 l2 x15_1).f1))).setCell ⟨gb207, 2, none⟩ (.int .u8 ((rd_T48 l2 x15_1).f2))).setCell ⟨gb207, 3, none⟩ (.string ((rd_T48 l2 x15_1).f3))).setCell ⟨gb207, 4, none⟩ (.int .u16 ((rd_T48 l2 x15_1).f4))).setCell ⟨gb207, 5, none⟩ (.slice A206_5 ((rd_T48 l2 x15_1).f5).length c206_5)) = w15 at n0_ n1_ n2_ ⊢
                have HO_9 := n0_
                have BK207 := n1_
                have HB := n2_
                clear n0_ n1_ n2_
                have n0_ := Aside0.mk (Kd.N_drew HO_9.out)
                have n1_ := Aside0.mk (blk_drew BK207.out)
                have n2_ := Aside0.mk (below_drew1 HB.out)
                clear HO_9
                clear BK207
                clear HB
                have HO_9 := n0_
                have BK207 := n1_
                have HB := n2_
                clear n0_ n1_ n2_
                refine start_ (n := 19) (S := fun w' => w'.cell? ⟨gb207, 0, none⟩ = some (.int .u8 ((rd_T48 l2 x15_1).f0)) ∧ w'.cell? ⟨gb207, 1, none⟩ = some (.int .u8 ((rd_T48 l2 x15_1).f1)) ∧ w'.cell? ⟨gb207, 2, none⟩ = some (.int .u8 ((rd_T48 l2 x15_1).f2)) ∧ w'.cell? ⟨gb207, 3, none⟩ = some (.string ((rd_T48 l2 x15_1).f3)) ∧ w'.cell? ⟨gb207, 4, none⟩ = some (.int .u16 ((rd_T48 l2 x15_1).f4)) ∧ w'.cell? ⟨gb207, 5, none⟩ = some (.slice A206_5 ((rd_T48 l2 x15_1).f5).length c206_5)) (ds := []) #[false, false, false, false, false, false, false, false, false, false, false, false, false, false, false, false, false, false, false] (by kernel_rfl) rfl rfl ⟨(blk_cell BK207.out 0).trans rfl, (blk_cell BK207.out 1).trans rfl, (blk_cell BK207.out 2).trans rfl, (blk_cell BK207.out 3).trans rfl, (blk_cell BK207.out 4).trans rfl, (blk_cell BK207.out 5).trans rfl⟩ (fun hHeld => ?_); refine with_tabW kotatsulaw05_made.tab6 kotatsulaw05_made.bits6 (fun HT_ HW_ => ?_)
                generalize w15.drew = w16 at HO_9 BK207 HB hHeld ⊢
                refine pure_ (i := 0) (N := some 22) (v := ?_) (a' := ?_) #[true, false, false, false, false, false, false, false, false, false, false, false, false, false, false, false, false, false, false] rfl rfl (any_of HT_.out (by kernel_rfl)) (fun _ _ _ h => h) (Or.inl ⟨by rfl, ?_⟩) ?_ ?_
                rotate_left
                · intro w'
                  go_simp
                  with_reducible rfl
                rotate_left
                · simp only [Act.put, List.setIfInBounds_toArray, List.set_cons_zero, List.set_cons_succ, i64_w, i32_w]
                  rfl
                refine pure_ (i := 1) (N := some 23) (v := ?_) (a' := ?_) #[true, true, false, false, false, false, false, false, false, false, false, false, false, false, false, false, false, false, false] rfl rfl (any_of HT_.out (by kernel_rfl)) (fun _ _ _ h => h) (Or.inl ⟨by rfl, ?_⟩) ?_ ?_
                rotate_left
                · intro w'
                  go_simp
                  with_reducible rfl
                rotate_left
                · simp only [Act.put, List.setIfInBounds_toArray, List.set_cons_zero, List.set_cons_succ, i64_w, i32_w]
                  rfl
                refine pure_ (i := 3) (N := some 25) (v := ?_) (a' := ?_) #[true, true, false, true, false, false, false, false, false, false, false, false, false, false, false, false, false, false, false] rfl rfl (any_of HT_.out (by kernel_rfl)) (fun _ _ _ h => h) (Or.inl ⟨by rfl, ?_⟩) ?_ ?_
                rotate_left
                · intro w'
                  go_simp
                  with_reducible rfl
                rotate_left
                · simp only [Act.put, List.setIfInBounds_toArray, List.set_cons_zero, List.set_cons_succ, i64_w, i32_w]
                  rfl
                refine pure_ (i := 5) (N := some 27) (v := ?_) (a' := ?_) #[true, true, false, true, false, true, false, false, false, false, false, false, false, false, false, false, false, false, false] rfl rfl (any_of HT_.out (by kernel_rfl)) (fun _ _ _ h => h) (Or.inl ⟨by rfl, ?_⟩) ?_ ?_
                rotate_left
                · intro w'
                  go_simp
                  with_reducible rfl
                rotate_left
                · simp only [Act.put, List.setIfInBounds_toArray, List.set_cons_zero, List.set_cons_succ, i64_w, i32_w]
                  rfl
                refine pure_ (i := 8) (N := some 30) (v := ?_) (a' := ?_) #[true, true, false, true, false, true, false, false, true, false, false, false, false, false, false, false, false, false, false] rfl rfl (any_of HT_.out (by kernel_rfl)) (fun _ _ _ h => h) (Or.inl ⟨by rfl, ?_⟩) ?_ ?_
                rotate_left
                · intro w'
                  go_simp
                  with_reducible rfl
                rotate_left
                · simp only [Act.put, List.setIfInBounds_toArray, List.set_cons_zero, List.set_cons_succ, i64_w, i32_w]
                  rfl
                refine pure_ (i := 10) (N := some 32) (v := ?_) (a' := ?_) #[true, true, false, true, false, true, false, false, true, false, true, false, false, false, false, false, false, false, false] rfl rfl (any_of HT_.out (by kernel_rfl)) (fun _ _ _ h => h) (Or.inl ⟨by rfl, ?_⟩) ?_ ?_
                rotate_left
                · intro w'
                  go_simp
                  with_reducible rfl
                rotate_left
                · simp only [Act.put, List.setIfInBounds_toArray, List.set_cons_zero, List.set_cons_succ, i64_w, i32_w]
                  rfl
                refine pure_ (i := 12) (N := some 34) (v := ?_) (a' := ?_) #[true, true, false, true, false, true, false, false, true, false, true, false, true, false, false, false, false, false, false] rfl rfl (any_of HT_.out (by kernel_rfl)) (fun _ _ _ h => h) (Or.inl ⟨by rfl, ?_⟩) ?_ ?_
                rotate_left
                · intro w'
                  go_simp
                  with_reducible rfl
                rotate_left
                · simp only [Act.put, List.setIfInBounds_toArray, List.set_cons_zero, List.set_cons_succ, i64_w, i32_w]
                  rfl
                refine take_ (i := 2) (N := some 24) (v := ?_) (a' := ?_) #[true, true, true, true, false, true, false, false, true, false, true, false, true, false, false, false, false, false, false] rfl rfl (take_ofW HT_.out HW_.out (by kernel_rfl)) (fun _ _ _ h => h) (Or.inl ⟨by rfl, ?_⟩) hHeld ?_ ?_
                rotate_left
                · rintro w' ⟨s0, s1, s2, s3, s4, s5⟩
                  go_simp
                  with_reducible rfl
                rotate_left
                · simp only [Act.put, List.setIfInBounds_toArray, List.set_cons_zero, List.set_cons_succ, i64_w, i32_w]
                  rfl
                refine take_ (i := 4) (N := some 26) (v := ?_) (a' := ?_) #[true, true, true, true, true, true, false, false, true, false, true, false, true, false, false, false, false, false, false] rfl rfl (take_ofW HT_.out HW_.out (by kernel_rfl)) (fun _ _ _ h => h) (Or.inl ⟨by rfl, ?_⟩) hHeld ?_ ?_
                rotate_left
                · rintro w' ⟨s0, s1, s2, s3, s4, s5⟩
                  go_simp
                  with_reducible rfl
                rotate_left
                · simp only [Act.put, List.setIfInBounds_toArray, List.set_cons_zero, List.set_cons_succ, i64_w, i32_w]
                  rfl
                refine take_ (i := 6) (N := some 28) (v := ?_) (a' := ?_) #[true, true, true, true, true, true, true, false, true, false, true, false, true, false, false, false, false, false, false] rfl rfl (take_ofW HT_.out HW_.out (by kernel_rfl)) (fun _ _ _ h => h) (Or.inl ⟨by rfl, ?_⟩) hHeld ?_ ?_
                rotate_left
                · rintro w' ⟨s0, s1, s2, s3, s4, s5⟩
                  go_simp
                  with_reducible rfl
                rotate_left
                · simp only [Act.put, List.setIfInBounds_toArray, List.set_cons_zero, List.set_cons_succ, i64_w, i32_w]
                  rfl
                refine take_ (i := 9) (N := some 31) (v := ?_) (a' := ?_) #[true, true, true, true, true, true, true, false, true, true, true, false, true, false, false, false, false, false, false] rfl rfl (take_ofW HT_.out HW_.out (by kernel_rfl)) (fun _ _ _ h => h) (Or.inl ⟨by rfl, ?_⟩) hHeld ?_ ?_
                rotate_left
                · rintro w' ⟨s0, s1, s2, s3, s4, s5⟩
                  go_simp
                  with_reducible rfl
                rotate_left
                · simp only [Act.put, List.setIfInBounds_toArray, List.set_cons_zero, List.set_cons_succ, i64_w, i32_w]
                  rfl
                refine take_ (i := 11) (N := some 33) (v := ?_) (a' := ?_) #[true, true, true, true, true, true, true, false, true, true, true, true, true, false, false, false, false, false, false] rfl rfl (take_ofW HT_.out HW_.out (by kernel_rfl)) (fun _ _ _ h => h) (Or.inl ⟨by rfl, ?_⟩) hHeld ?_ ?_
                rotate_left
                · rintro w' ⟨s0, s1, s2, s3, s4, s5⟩
                  go_simp
                  with_reducible rfl
                rotate_left
                · simp only [Act.put, List.setIfInBounds_toArray, List.set_cons_zero, List.set_cons_succ, i64_w, i32_w]
                  rfl
                refine take_ (i := 13) (N := some 35) (v := ?_) (a' := ?_) #[true, true, true, true, true, true, true, false, true, true, true, true, true, true, false, false, false, false, false] rfl rfl (take_ofW HT_.out HW_.out (by kernel_rfl)) (fun _ _ _ h => h) (Or.inl ⟨by rfl, ?_⟩) hHeld ?_ ?_
                rotate_left
                · rintro w' ⟨s0, s1, s2, s3, s4, s5⟩
                  go_simp
                  with_reducible rfl
                rotate_left
                · simp only [Act.put, List.setIfInBounds_toArray, List.set_cons_zero, List.set_cons_succ, i64_w, i32_w]
                  rfl
                refine one_ (i := 7) (N := some 29) #[true, true, true, true, true, true, true, true, true, true, true, true, true, true, false, false, false, false, false] rfl rfl (one_of HT_.out (by kernel_rfl)) (by decide) (fun K hK => ?_)
                refine goes_ Try.func22 (by kernel_rfl) rfl #[.string ((rd_T48 l2 x15_1).f3), .int .i64 20] (by rfl) rfl rfl (by (try simp only [List.map_toArray, List.map_cons, List.map_nil]); first | done | rfl | (simp only [List.length_drop, List.length_take]; rfl)) ?_
                with_reducible refine (kotatsuref01_Text.calls ((rd_T48 l2 x15_1).f3) 20 t208 _ A9.out).mono ?_
                rintro e w17 ⟨rfl, hb⟩
                refine ⟨_, rfl, ?_⟩
                have n0_ := Aside0.mk (Kd.N_below (by (with_reducible repeat (first | apply Kd.N_alloc | apply Kd.N_drewN | apply Kd.N_drew)); exact HO_9.out) hb)
                have n1_ := Aside0.mk (blk_below (g := gb207) (o := .cells #[.int .u8 ((rd_T48 l2 x15_1).f0), .int .u8 ((rd_T48 l2 x15_1).f1), .int .u8 ((rd_T48 l2 x15_1).f2), .string ((rd_T48 l2 x15_1).f3), .int .u16 ((rd_T48 l2 x15_1).f4), .slice A206_5 ((rd_T48 l2 x15_1).f5).length c206_5] 48 (0, 0)) (by (with_reducible repeat (first | refine blk_drewN ?_ _ | refine blk_drew ?_ | refine blk_alloc ?_ _)); exact BK207.out) hb)
                have n2_ := Aside0.mk (below_step (by repeat (first | (with_reducible first | exact HB.out | apply below_alloc | apply pw_below_drewN | apply below_drew1 | refine below_set ?_ GE207.out) | exact HB.out)) hb)
                clear HO_9
                clear BK207
                clear HB
                have HO_9 := n0_
                have BK207 := n1_
                have HB := n2_
                clear n0_ n1_ n2_
                (try clear hb)
                (try clear hb2)
                (try clear hk)
                (try clear hi)
                refine hK.out _ _ ⟨(blk_cell BK207.out 0).trans rfl, (blk_cell BK207.out 1).trans rfl, (blk_cell BK207.out 2).trans rfl, (blk_cell BK207.out 3).trans rfl, (blk_cell BK207.out 4).trans rfl, (blk_cell BK207.out 5).trans rfl⟩ (fun hHeld => ?_)
                clear hK K
                refine norm_ (a' := ?_) ?_ ?_
                rotate_left
                · show Act.put _ (some 29) _ = _
                  simp only [Act.put, List.setIfInBounds_toArray, List.set_cons_zero, List.set_cons_succ, i64_w, i32_w]
                  rfl
                refine one_ (i := 14) (N := some 36) #[true, true, true, true, true, true, true, true, true, true, true, true, true, true, true, false, false, false, false] rfl rfl (one_of HT_.out (by kernel_rfl)) (by decide) (fun K hK => ?_)
                refine goes_ Try.func9 (by kernel_rfl) rfl #[.slice A206_5 ((rd_T48 l2 x15_1).f5).length c206_5, .int .i64 300] (by rfl) rfl rfl (by (try simp only [List.map_toArray, List.map_cons, List.map_nil]); first | done | rfl | (simp only [List.length_drop, List.length_take]; rfl)) ?_
                with_reducible refine (kotatsuref01_Cut.calls k1 _ _ ((rd_T48 l2 x15_1).f5) 300 t209 _ ?side1 ?side2 A10.out).mono ?_
                (case side1 => repeat (first | exact (Kd.C_below HR206_5.out HB.out) | (with_reducible refine Kd.C_alloc ?_ _) | (with_reducible refine Kd.C_drewN ?_ _) | (with_reducible refine Kd.C_drew ?_)))
                (case side2 => exact HC206_5.out)
                rintro e w18 ⟨v210, rfl, ho0, hb⟩
                refine ⟨_, rfl, ?_⟩
                have n0_ := Aside0.mk (Kd.N_below (by (with_reducible repeat (first | apply Kd.N_alloc | apply Kd.N_drewN | apply Kd.N_drew)); exact HO_9.out) hb)
                have n1_ := Aside0.mk (Kd.V_lower (Kd.V_mono (ok' := fun k_ => (w.heap.size ≤ k_) ∧ some k_ ≠ (u9 : Value).ownBlock ∧ k_ ≠ gb207) ho0 (fun k_ hk_ => ⟨(Nat.le_trans (below_size (by repeat (first | (with_reducible first | exact HB.out | apply below_alloc | apply pw_below_drewN | apply below_drew1 | refine below_set ?_ GE207.out) | exact HB.out))) hk_), (Kd.fresh' (Kd.N_lt (by (with_reducible repeat (first | apply Kd.N_alloc | apply Kd.N_drewN | apply Kd.N_drew)); exact HO_9.out)) k_ hk_), (Kd.freshB (g := gb207) (o := .cells #[.int .u8 ((rd_T48 l2 x15_1).f0), .int .u8 ((rd_T48 l2 x15_1).f1), .int .u8 ((rd_T48 l2 x15_1).f2), .string ((rd_T48 l2 x15_1).f3), .int .u16 ((rd_T48 l2 x15_1).f4), .slice A206_5 ((rd_T48 l2 x15_1).f5).length c206_5] 48 (0, 0)) (by (with_reducible repeat (first | refine blk_drewN ?_ _ | refine blk_drew ?_ | refine blk_alloc ?_ _)); exact BK207.out) k_ hk_)⟩)) (below_size (by repeat (first | (with_reducible first | exact HB.out | apply below_alloc | apply pw_below_drewN | apply below_drew1 | refine below_set ?_ GE207.out) | exact HB.out))))
                have n2_ := Aside0.mk (blk_below (g := gb207) (o := .cells #[.int .u8 ((rd_T48 l2 x15_1).f0), .int .u8 ((rd_T48 l2 x15_1).f1), .int .u8 ((rd_T48 l2 x15_1).f2), .string ((rd_T48 l2 x15_1).f3), .int .u16 ((rd_T48 l2 x15_1).f4), .slice A206_5 ((rd_T48 l2 x15_1).f5).length c206_5] 48 (0, 0)) (by (with_reducible repeat (first | refine blk_drewN ?_ _ | refine blk_drew ?_ | refine blk_alloc ?_ _)); exact BK207.out) hb)
                have n3_ := Aside0.mk (below_step (by repeat (first | (with_reducible first | exact HB.out | apply below_alloc | apply pw_below_drewN | apply below_drew1 | refine below_set ?_ GE207.out) | exact HB.out)) hb)
                clear HO_9
                clear BK207
                clear HB
                have HO_9 := n0_
                have HO211 := n1_
                have BK207 := n2_
                have HB := n3_
                clear n0_ n1_ n2_ n3_
                (try clear hb)
                (try clear hb2)
                (try clear hk)
                (try clear hi)
                (try clear ho0)
                obtain ⟨Ao19, co19, eo19⟩ := Kd.V_slice HO211.out
                (first | subst eo19 | (injection eo19 with f1_ f2_ f3_; have f4_ := f1_.symm; have f5_ := f3_.symm; clear f1_ f2_ f3_; subst f4_; subst f5_))
                refine hK.out _ _ ⟨(blk_cell BK207.out 0).trans rfl, (blk_cell BK207.out 1).trans rfl, (blk_cell BK207.out 2).trans rfl, (blk_cell BK207.out 3).trans rfl, (blk_cell BK207.out 4).trans rfl, (blk_cell BK207.out 5).trans rfl⟩ (fun hHeld => ?_)
                clear hK K
                refine norm_ (a' := ?_) ?_ ?_
                rotate_left
                · show Act.put _ (some 36) _ = _
                  simp only [Act.put, List.setIfInBounds_toArray, List.set_cons_zero, List.set_cons_succ, i64_w, i32_w]
                  rfl
                refine one_ (i := 15) (N := some 37) #[true, true, true, true, true, true, true, true, true, true, true, true, true, true, true, true, false, false, false] rfl rfl (one_of HT_.out (by kernel_rfl)) (by decide) (fun K hK => ?_)
                refine goes_ Try.func23 (by kernel_rfl) rfl #[.int .u8 ((rd_T48 l2 x15_1).f0), .int .u8 ((rd_T48 l2 x15_1).f1), .string t208, .int .u16 ((rd_T48 l2 x15_1).f4), .int .u8 ((rd_T48 l2 x15_1).f2), .slice Ao19 t209.length co19] (by rfl) rfl rfl (by (try simp only [List.map_toArray, List.map_cons, List.map_nil]); first | done | rfl | (simp only [List.length_drop, List.length_take]; rfl)) ?_
                with_reducible refine (block_File.calls ((rd_T48 l2 x15_1).f0) ((rd_T48 l2 x15_1).f1) t208 ((rd_T48 l2 x15_1).f4) ((rd_T48 l2 x15_1).f2) _ _ t209 t212 _ ?side1 ?side2 A11.out).mono ?_
                (case side1 => repeat (first | exact (Kd.V_reads' HO211.out).2.2 | (with_reducible refine Kd.C_alloc ?_ _) | (with_reducible refine Kd.C_drewN ?_ _) | (with_reducible refine Kd.C_drew ?_)))
                (case side2 => exact (Kd.V_reads' HO211.out).2.1)
                rintro e w20 ⟨v213, rfl, ho0, hb⟩
                refine ⟨_, rfl, ?_⟩
                have n0_ := Aside0.mk (Kd.N_elder' (by (with_reducible repeat (first | apply Kd.N_alloc | apply Kd.N_drewN | apply Kd.N_drew)); exact HO_9.out) (Kd.N_base ho0) hb)
                have n1_ := Aside0.mk (Kd.V_elder' (by (with_reducible repeat (first | apply Kd.V_alloc | apply Kd.V_drewN | apply Kd.V_drew)); exact HO211.out) (Kd.N_base ho0) hb)
                have n2_ := Aside0.mk (Kd.N_lower (Kd.N_mono (ok' := fun k_ => (w.heap.size ≤ k_) ∧ some k_ ≠ (u9 : Value).ownBlock ∧ k_ ≠ gb207) ho0 (fun k_ hk_ => ⟨(Nat.le_trans (below_size (by repeat (first | (with_reducible first | exact HB.out | apply below_alloc | apply pw_below_drewN | apply below_drew1 | refine below_set ?_ GE207.out) | exact HB.out))) hk_), (Kd.fresh' (Kd.N_lt (by (with_reducible repeat (first | apply Kd.N_alloc | apply Kd.N_drewN | apply Kd.N_drew)); exact HO_9.out)) k_ hk_), (Kd.freshB (g := gb207) (o := .cells #[.int .u8 ((rd_T48 l2 x15_1).f0), .int .u8 ((rd_T48 l2 x15_1).f1), .int .u8 ((rd_T48 l2 x15_1).f2), .string ((rd_T48 l2 x15_1).f3), .int .u16 ((rd_T48 l2 x15_1).f4), .slice A206_5 ((rd_T48 l2 x15_1).f5).length c206_5] 48 (0, 0)) (by (with_reducible repeat (first | refine blk_drewN ?_ _ | refine blk_drew ?_ | refine blk_alloc ?_ _)); exact BK207.out) k_ hk_)⟩)) (below_size (by repeat (first | (with_reducible first | exact HB.out | apply below_alloc | apply pw_below_drewN | apply below_drew1 | refine below_set ?_ GE207.out) | exact HB.out))))
                have n3_ := Aside0.mk (blk_below (g := gb207) (o := .cells #[.int .u8 ((rd_T48 l2 x15_1).f0), .int .u8 ((rd_T48 l2 x15_1).f1), .int .u8 ((rd_T48 l2 x15_1).f2), .string ((rd_T48 l2 x15_1).f3), .int .u16 ((rd_T48 l2 x15_1).f4), .slice A206_5 ((rd_T48 l2 x15_1).f5).length c206_5] 48 (0, 0)) (by (with_reducible repeat (first | refine blk_drewN ?_ _ | refine blk_drew ?_ | refine blk_alloc ?_ _)); exact BK207.out) hb)
                have n4_ := Aside0.mk (below_step (by repeat (first | (with_reducible first | exact HB.out | apply below_alloc | apply pw_below_drewN | apply below_drew1 | refine below_set ?_ GE207.out) | exact HB.out)) hb)
                clear HO_9
                clear HO211
                clear BK207
                clear HB
                have HO_9 := n0_
                have HO211 := n1_
                have HO214 := n2_
                have BK207 := n3_
                have HB := n4_
                clear n0_ n1_ n2_ n3_ n4_
                (try clear hb)
                (try clear hb2)
                (try clear hk)
                (try clear hi)
                (try clear ho0)
                obtain ⟨Ao22, co22, eo22⟩ := Kd.N_slice HO214.out
                (first | subst eo22 | (injection eo22 with f1_ f2_ f3_; have f4_ := f1_.symm; have f5_ := f3_.symm; clear f1_ f2_ f3_; subst f4_; subst f5_))
                refine hK.out _ _ ⟨(blk_cell BK207.out 0).trans rfl, (blk_cell BK207.out 1).trans rfl, (blk_cell BK207.out 2).trans rfl, (blk_cell BK207.out 3).trans rfl, (blk_cell BK207.out 4).trans rfl, (blk_cell BK207.out 5).trans rfl⟩ (fun hHeld => ?_)
                clear hK K
                refine norm_ (a' := ?_) ?_ ?_
                rotate_left
                · show Act.put _ (some 37) _ = _
                  simp only [Act.put, List.setIfInBounds_toArray, List.set_cons_zero, List.set_cons_succ, i64_w, i32_w]
                  rfl
                refine one_ (i := 16) (N := some 38) #[true, true, true, true, true, true, true, true, true, true, true, true, true, true, true, true, true, false, false] rfl rfl (one_of HT_.out (by kernel_rfl)) (by decide) (fun K hK => ?_)
                refine value_ (w1 := ?_) (v := ?_) (by rfl) rfl ?_ ?_
                rotate_left 2
                · go_simp
                  constructor
                  · rfl
                  · rfl
                refine hK.out _ _ ⟨(blk_cell (blk_alloc BK207.out _) 0).trans rfl, (blk_cell (blk_alloc BK207.out _) 1).trans rfl, (blk_cell (blk_alloc BK207.out _) 2).trans rfl, (blk_cell (blk_alloc BK207.out _) 3).trans rfl, (blk_cell (blk_alloc BK207.out _) 4).trans rfl, (blk_cell (blk_alloc BK207.out _) 5).trans rfl⟩ (fun hHeld => ?_)
                clear hK K
                refine norm_ (a' := ?_) ?_ ?_
                rotate_left
                · show Act.put _ (some 38) _ = _
                  simp only [Act.put, List.setIfInBounds_toArray, List.set_cons_zero, List.set_cons_succ, i64_w, i32_w]
                  rfl
                refine one_ (i := 17) (N := some 39) #[true, true, true, true, true, true, true, true, true, true, true, true, true, true, true, true, true, true, false] rfl rfl (one_of HT_.out (by kernel_rfl)) (by decide) (fun K hK => ?_)
                refine Kd.N_append_step (Kd.slice 43 k43) (w0 := w) w.heap.size (by rfl) (.tmp 22) (.tmp 38) 54 29 (.slice none 0 0) 24 rfl Try.underlying54 info29 rfl (by decide) (by omega) u9 x9_1 t212 [.slice Ao22 t212.length co22] (fun k_ => (w.heap.size ≤ k_) ∧ k_ ≠ gb207) (fun k_ => ((fun k_ => (w.heap.size ≤ k_) ∧ k_ ≠ gb207)) k_ ∧ some k_ ≠ (u9 : Value).ownBlock) rfl rfl ?aP (fun _ hk => hk) ?aF ?aO ?aB ?aS ?aL ?_
                (case aP => exact (Kd.FK_slice_mk (Kd.N_reads' (Kd.N_mono (ok' := (fun k_ => ((fun k_ => (w.heap.size ≤ k_) ∧ k_ ≠ gb207)) k_ ∧ some k_ ≠ (u9 : Value).ownBlock)) (HO214.out) (fun k_ hk => ⟨⟨hk.1, hk.2.2⟩, hk.2.1⟩))).2.1 (Kd.N_F (Kd.N_mono (ok' := (fun k_ => ((fun k_ => (w.heap.size ≤ k_) ∧ k_ ≠ gb207)) k_ ∧ some k_ ≠ (u9 : Value).ownBlock)) (HO214.out) (fun k_ hk => ⟨⟨hk.1, hk.2.2⟩, hk.2.1⟩)))))
                (case aB => exact (by repeat (first | (with_reducible first | exact HB.out | apply below_alloc | apply pw_below_drewN | apply below_drew1 | refine below_set ?_ GE207.out) | exact HB.out)))
                (case aF => exact (fun k_ hk => ⟨(Nat.le_trans (below_size (by repeat (first | (with_reducible first | exact HB.out | apply below_alloc | apply pw_below_drewN | apply below_drew1 | refine below_set ?_ GE207.out) | exact HB.out))) hk), Kd.freshB (g := gb207) (o := .cells #[.int .u8 ((rd_T48 l2 x15_1).f0), .int .u8 ((rd_T48 l2 x15_1).f1), .int .u8 ((rd_T48 l2 x15_1).f2), .string ((rd_T48 l2 x15_1).f3), .int .u16 ((rd_T48 l2 x15_1).f4), .slice A206_5 ((rd_T48 l2 x15_1).f5).length c206_5] 48 (0, 0)) (by (with_reducible repeat (first | refine blk_drewN ?_ _ | refine blk_drew ?_ | refine blk_alloc ?_ _)); exact BK207.out) k_ hk⟩))
                (case aO => exact (by (with_reducible repeat (first | apply Kd.N_alloc | apply Kd.N_drewN | apply Kd.N_drew)); exact Kd.N_mono HO_9.out (fun _ hk => ⟨hk.1.1, hk.1.2⟩)))
                (case aS => exact (below_size (by repeat (first | (with_reducible first | exact HB.out | apply below_alloc | apply pw_below_drewN | apply below_drew1 | refine below_set ?_ GE207.out) | exact HB.out))))
                (case aL => have := LMc12.out; omega)
                intro v216 w21 ho hb hg hat
                rw [← Ny215.out] at ho
                have n0_ := Aside0.mk (blk_grown (g := gb207) (o := .cells #[.int .u8 ((rd_T48 l2 x15_1).f0), .int .u8 ((rd_T48 l2 x15_1).f1), .int .u8 ((rd_T48 l2 x15_1).f2), .string ((rd_T48 l2 x15_1).f3), .int .u16 ((rd_T48 l2 x15_1).f4), .slice A206_5 ((rd_T48 l2 x15_1).f5).length c206_5] 48 (0, 0)) (by (with_reducible repeat (first | refine blk_drewN ?_ _ | refine blk_drew ?_ | refine blk_alloc ?_ _)); exact BK207.out) hg (Kd.N_ne HO_9.out BK207.out (by decide)))
                have n1_ := Aside0.mk (Kd.V_afterv (ok := (fun k_ => (w.heap.size ≤ k_) ∧ some k_ ≠ (.slice Ao22 t212.length co22 : Value).ownBlock ∧ k_ ≠ gb207)) (by (with_reducible repeat (first | apply Kd.V_alloc | apply Kd.V_drewN | apply Kd.V_drew)); exact Kd.V_mono HO211.out (fun _ hk => ⟨⟨hk.1.1, ⟨hk.2, hk.1.2.2⟩⟩, hk.1.2.1⟩)) hg hat)
                have n2_ := Aside0.mk (hb)
                have n3_ := Aside0.mk (ho)
                clear BK207
                clear HO211
                clear HB
                clear HO_9
                clear HO214
                have BK207 := n0_
                have HO211 := n1_
                have HB := n2_
                have HO217 := n3_
                clear n0_ n1_ n2_ n3_
                clear ho hb hg hat
                refine hK.out _ _ ⟨(blk_cell BK207.out 0).trans rfl, (blk_cell BK207.out 1).trans rfl, (blk_cell BK207.out 2).trans rfl, (blk_cell BK207.out 3).trans rfl, (blk_cell BK207.out 4).trans rfl, (blk_cell BK207.out 5).trans rfl⟩ (fun hHeld => ?_)
                clear hK K
                refine norm_ (a' := ?_) ?_ ?_
                rotate_left
                · show Act.put _ (some 39) _ = _
                  simp only [Act.put, List.setIfInBounds_toArray, List.set_cons_zero, List.set_cons_succ, i64_w, i32_w]
                  rfl
                refine pure_ (i := 18) (N := some 9) (v := ?_) (a' := ?_) #[true, true, true, true, true, true, true, true, true, true, true, true, true, true, true, true, true, true, true] rfl rfl (any_of HT_.out (by kernel_rfl)) (fun _ _ _ h => h) (Or.inl ⟨by rfl, ?_⟩) ?_ ?_
                rotate_left
                · intro w'
                  go_simp
                  with_reducible rfl
                rotate_left
                · simp only [Act.put, List.setIfInBounds_toArray, List.set_cons_zero, List.set_cons_succ, i64_w, i32_w]
                  rfl
                refine done_ (done_of HT_.out (by kernel_rfl)) ?_
                try go_wp2
                go_roundg k1
                case measure => have := HK1.out; omega
                case rel => exact ⟨(y215), (wrap64 (x15_1 + 1)), (by first | rfl | (simp; done) | (simp [*]; done)), H', ⟨by have := HK1.out; omega⟩, ⟨by (with_reducible repeat (first | apply Kd.N_alloc | apply Kd.N_drewN | apply Kd.N_drew)); exact Kd.N_mono HO217.out (fun _ hk => hk.1)⟩, ⟨by repeat (first | (with_reducible first | exact HB.out | apply below_alloc | apply pw_below_drewN | apply below_drew1 | refine below_set ?_ GE207.out) | exact HB.out)⟩⟩
              · rw [if_neg c12] at H
                exact absurd H (by simp)
            · rw [if_neg c8] at H
              have c8b0 : decide (x15_1 < 8) = false := decide_eq_false c8
              clear c8
              have H' := Aside0.mk H
              clear H
              have p206 : 0 ≤ (x15_1 : Int) := of_decide_eq_true (by first | (with_reducible assumption) | assumption)
              have q206 : x15_1 < (l2.length : Int) := of_decide_eq_true (by first | (with_reducible assumption) | assumption)
              obtain ⟨ad206, A206_5, c206_5, e206, hx206_0, hx206_1, hx206_2, hx206_3, hx206_4, hx206_5, hl206_5, hi206_5⟩ := at_T48 HR2.out x15_1 p206 q206
              cases e206
              replace hx206_0 := (HB.out.cell (World.block_lt_of_cell? w _ hx206_0)).trans hx206_0
              replace hx206_1 := (HB.out.cell (World.block_lt_of_cell? w _ hx206_1)).trans hx206_1
              replace hx206_2 := (HB.out.cell (World.block_lt_of_cell? w _ hx206_2)).trans hx206_2
              replace hx206_3 := (HB.out.cell (World.block_lt_of_cell? w _ hx206_3)).trans hx206_3
              replace hx206_4 := (HB.out.cell (World.block_lt_of_cell? w _ hx206_4)).trans hx206_4
              replace hx206_5 := (HB.out.cell (World.block_lt_of_cell? w _ hx206_5)).trans hx206_5
              have HR206_5 := Aside0.mk hi206_5
              have HC206_5 := Aside0.mk hl206_5
              clear hi206_5 hl206_5
              replace p206 := eq_true p206
              replace q206 := eq_true q206
              go_wp2_with (first | ((with_reducible refine gate_dst (N := 11) rfl ?_); refine box_event ?hg (N := 11) ?hd (cs := #[.int .u8 0, .int .u8 0, .int .u8 0, .string (⟨#[]⟩ : ByteArray), .int .u16 0, .slice none 0 0]) (t := 48) ?hr ?_; (case hd => rfl); (case hg => rfl); (case hr => first | (go_simp; done) | (go_simp; rfl)); intro gb207 hg w23 hbox hb; have n0_ := Aside0.mk (Kd.N_below (Kd.N_elderB (by (with_reducible repeat (first | apply Kd.N_alloc | apply Kd.N_drewN | apply Kd.N_drew)); exact HO_9.out) gb207 (Nat.le_of_eq hg.symm)) hb); have n1_ := Aside0.mk (below_step (by repeat (first | (with_reducible first | exact HB.out | apply below_alloc | apply pw_below_drewN | apply below_drew1) | exact HB.out)) hb); have n2_ := Aside0.mk (hbox); have n3_ := Aside0.mk ((by rw [hg]; exact (below_size (by repeat (first | (with_reducible first | exact HB.out | apply below_alloc | apply pw_below_drewN | apply below_drew1) | exact HB.out))) : w.heap.size ≤ gb207)); have n4_ := Aside0.mk ((by rw [hg]; exact (below_size (by repeat (first | (with_reducible first | exact HB.out | apply below_alloc | apply pw_below_drewN | apply below_drew1) | exact HB.out))) : w.heap.size ≤ gb207)); clear HO_9; clear HB; have HO_9 := n0_; have HB := n1_; have BK207 := n2_; have GW207 := n3_; have GE207 := n4_; clear n0_ n1_ n2_ n3_ n4_; clear hb hbox hg; have hcz24_0 : w23.cell? ⟨gb207, 0, none⟩ = some (.int .u8 0) := (blk_cell BK207.out 0).trans rfl; have hcz24_1 : w23.cell? ⟨gb207, 1, none⟩ = some (.int .u8 0) := (blk_cell BK207.out 1).trans rfl; have hcz24_2 : w23.cell? ⟨gb207, 2, none⟩ = some (.int .u8 0) := (blk_cell BK207.out 2).trans rfl; have hcz24_3 : w23.cell? ⟨gb207, 3, none⟩ = some (.string (⟨#[]⟩ : ByteArray)) := (blk_cell BK207.out 3).trans rfl; have hcz24_4 : w23.cell? ⟨gb207, 4, none⟩ = some (.int .u16 0) := (blk_cell BK207.out 4).trans rfl; have hcz24_5 : w23.cell? ⟨gb207, 5, none⟩ = some (.slice none 0 0) := (blk_cell BK207.out 5).trans rfl; have hfz24_0 := blk_frozen BK207.out 0; have hfz24_1 := blk_frozen BK207.out 1; have hfz24_2 := blk_frozen BK207.out 2; have hfz24_3 := blk_frozen BK207.out 3; have hfz24_4 := blk_frozen BK207.out 4; have hfz24_5 := blk_frozen BK207.out 5))
              go_roundg k1
              case measure => have := HK1.out; omega
              case rel => exact ⟨(x9_1), (wrap64 (x15_1 + 1)), (by first | rfl | (simp; done) | (simp [*]; done)), H', ⟨by have := HK1.out; omega⟩, ⟨by (with_reducible repeat (first | apply Kd.N_alloc | apply Kd.N_drewN | apply Kd.N_drew)); exact Kd.N_mono (Kd.N_far (p := ⟨gb207, 5, none⟩) (Kd.N_far (p := ⟨gb207, 4, none⟩) (Kd.N_far (p := ⟨gb207, 3, none⟩) (Kd.N_far (p := ⟨gb207, 2, none⟩) (Kd.N_far (p := ⟨gb207, 1, none⟩) (Kd.N_far (p := ⟨gb207, 0, none⟩) (Kd.N_mono HO_9.out (fun k_ hk => (⟨hk, hk.2⟩ : _ ∧ k_ ≠ gb207))) (fun _ hk => hk.2) (.int .u8 ((rd_T48 l2 x15_1).f0))) (fun _ hk => hk.2) (.int .u8 ((rd_T48 l2 x15_1).f1))) (fun _ hk => hk.2) (.int .u8 ((rd_T48 l2 x15_1).f2))) (fun _ hk => hk.2) (.string ((rd_T48 l2 x15_1).f3))) (fun _ hk => hk.2) (.int .u16 ((rd_T48 l2 x15_1).f4))) (fun _ hk => hk.2) (.slice A206_5 ((rd_T48 l2 x15_1).f5).length c206_5)) (fun _ hk => hk.1.1)⟩, ⟨by repeat (first | (with_reducible first | exact HB.out | apply below_alloc | apply pw_below_drewN | apply below_drew1 | refine below_set ?_ GE207.out) | exact HB.out)⟩⟩
          · rw [if_neg c7] at H
            exact absurd H (by simp)
        · rw [if_neg c6] at H
          exact absurd H (by simp)
      · rw [if_neg c5] at H
        have c5b0 : decide (x15_1 < (l2.length : Int)) = false := decide_eq_false c5
        clear c5
        replace H := Option.bind_eq_some_iff.mp H
        obtain ⟨t199, A250, H⟩ := H
        replace H : ((block_Disk.f t199 a1 x9_1).bind fun t200 => (if 0 ≤ (mx 0 (wrap64 ((t200.length : Int) - (wrap64 (Int.tmod a3 5))))) then (if (mx 0 (wrap64 ((t200.length : Int) - (wrap64 (Int.tmod a3 5))))) ≤ (t200.length : Int) then (some (t200.take ((mx 0 (wrap64 ((t200.length : Int) - (wrap64 (Int.tmod a3 5))))) : Int).toNat)) else (none)) else (none))) = some r := H
        have A25 := Aside0.mk A250
        clear A250
        replace H := Option.bind_eq_some_iff.mp H
        obtain ⟨t200, A260, H⟩ := H
        replace H : (if 0 ≤ (mx 0 (wrap64 ((t200.length : Int) - (wrap64 (Int.tmod a3 5))))) then (if (mx 0 (wrap64 ((t200.length : Int) - (wrap64 (Int.tmod a3 5))))) ≤ (t200.length : Int) then (some (t200.take ((mx 0 (wrap64 ((t200.length : Int) - (wrap64 (Int.tmod a3 5))))) : Int).toNat)) else (none)) else (none)) = some r := H
        have A26 := Aside0.mk A260
        clear A260
        obtain ⟨ji27, hji27⟩ : ∃ j_ : Int, (mx 0 (wrap64 ((t200.length : Int) - (wrap64 (Int.tmod a3 5))))) = j_ := ⟨_, rfl⟩
        replace H : (if 0 ≤ (ji27) then (if (ji27) ≤ (t200.length : Int) then (some (t200.take ((ji27) : Int).toNat)) else (none)) else (none)) = some r := by first | (rw [hji27] at H; exact H) | (simp only [hji27] at H ⊢; exact H)
        (try rw [hji27] at A25)
        (try rw [hji27] at A26)
        have hji27_ : (if 0 < (wrap64 ((t200.length : Int) - (wrap64 (Int.tmod a3 5)))) then (wrap64 ((t200.length : Int) - (wrap64 (Int.tmod a3 5)))) else 0) = ji27 := hji27
        by_cases c28 : 0 ≤ (ji27)
        · rw [if_pos c28] at H
          have c28b0 := eq_true c28
          have c28b1 : decide (0 ≤ (ji27)) = true := decide_eq_true c28
          clear c28
          by_cases c29 : (ji27) ≤ (t200.length : Int)
          · rw [if_pos c29] at H
            have c29b0 := eq_true c29
            have c29b1 : decide ((ji27) ≤ (t200.length : Int)) = true := decide_eq_true c29
            clear c29
            obtain ⟨y203, hy203⟩ : ∃ y_ : List (S43), y_ = (t200.take ((ji27) : Int).toNat) := ⟨_, rfl⟩
            replace H : (some y203) = some r := by first | (rw [hy203]; with_reducible exact H) | (have H2_ := (Option.bind_some _ _).symm.trans H; rw [hy203]; with_reducible exact H2_) | (have H2_ := (Option.bind_some _ _).symm.trans H; with_reducible exact H2_) | with_reducible exact H | (rw [hy203]; exact H) | exact H
            have Ny203 := Aside0.mk hy203
            clear hy203
            obtain rfl := Option.some.inj H
            go_wp2_with (first | ((with_reducible refine gate_callee (f := 22) rfl ?_); refine goesL_ (some 42) rfl rfl Try.func22 (by kernel_rfl) rfl #[.string a0, .int .i64 20] rfl (by (try simp only [List.map_toArray, List.map_cons, List.map_nil]); first | done | rfl | (simp only [List.length_drop, List.length_take]; rfl)) ?_; (with_reducible refine (kotatsuref01_Text.calls a0 20 t199 _ A25.out).mono ?_); rintro e w30 ⟨rfl, hb⟩; refine ⟨_, rfl, ?_⟩; have n0_ := Aside0.mk (Kd.N_below (by (with_reducible repeat (first | apply Kd.N_alloc | apply Kd.N_drewN | apply Kd.N_drew)); exact HO_9.out) hb); have n1_ := Aside0.mk (below_step (by repeat (first | (with_reducible first | exact HB.out | apply below_alloc | apply pw_below_drewN | apply below_drew1) | exact HB.out)) hb); clear HO_9; clear HB; have HO_9 := n0_; have HB := n1_; clear n0_ n1_; (try clear hb); (try clear hb2); (try clear hk); (try clear hi); obtain ⟨Ao31, co31, eo31⟩ := Kd.N_slice HO_9.out; subst eo31) | ((with_reducible refine gate_callee (f := 13) rfl ?_); refine goesL_ (some 45) rfl rfl Try.func13 (by kernel_rfl) rfl #[.string t199, .int .u8 a1, .slice Ao31 x9_1.length co31] rfl (by (try simp only [List.map_toArray, List.map_cons, List.map_nil]); first | done | rfl | (simp only [List.length_drop, List.length_take]; rfl)) ?_; (with_reducible refine (block_Disk.calls t199 a1 (fun k_ => (w.heap.size ≤ k_)) _ _ x9_1 t200 _ ?side1 A26.out).mono ?_); (case side1 => exact Kd.N_V (HO_9.out)); rintro e w32 ⟨v201, rfl, ho0, hb⟩; refine ⟨_, rfl, ?_⟩; have n0_ := Aside0.mk (Kd.N_elder' (by (with_reducible repeat (first | apply Kd.N_alloc | apply Kd.N_drewN | apply Kd.N_drew)); exact HO_9.out) (Kd.N_base ho0) hb); have n1_ := Aside0.mk (Kd.N_lower (Kd.N_mono (ok' := fun k_ => (w.heap.size ≤ k_)) ho0 (fun k_ hk_ => Or.elim hk_ (fun hs_ => hs_) (fun hn_ => (Nat.le_trans (below_size (by repeat (first | (with_reducible first | exact HB.out | apply below_alloc | apply pw_below_drewN | apply below_drew1) | exact HB.out))) hn_)))) (below_size (by repeat (first | (with_reducible first | exact HB.out | apply below_alloc | apply pw_below_drewN | apply below_drew1) | exact HB.out)))); have n2_ := Aside0.mk (below_step (by repeat (first | (with_reducible first | exact HB.out | apply below_alloc | apply pw_below_drewN | apply below_drew1) | exact HB.out)) hb); clear HO_9; clear HB; have HO_9 := n0_; have HO202 := n1_; have HB := n2_; clear n0_ n1_ n2_; (try clear hb); (try clear hb2); (try clear hk); (try clear hi); (try clear ho0); obtain ⟨Ao33, co33, eo33⟩ := Kd.N_slice HO202.out; subst eo33; have q34 : ((ji27) : Int) ≤ ((t200.length : Int) : Int) := of_decide_eq_true (by first | (with_reducible assumption) | assumption); obtain ⟨i034, hi034, _, hsz34, _⟩ := info_parts info43; have hcut34 := cut_to (P := Try.prog) 29 43 .i64 Try.underlying29 hi034 Ao33 t200.length co33 (ji27) (of_decide_eq_true (by first | (with_reducible assumption) | assumption)) q34 (Kd.N_reads' HO202.out).2.1; have hr34 := Kd.N_take (m := ((ji27) : Int).toNat) HO202.out (by omega); have hy34 : y203.length = ((ji27) : Int).toNat := (by rw [Ny203.out, List.length_take]; omega); rw [← Ny203.out] at hr34; rw [← hy34] at hr34 hcut34; clear hy34 hi034 hsz34 HO202; have HO205 := Aside0.mk hr34; clear hr34; replace q34 := eq_true q34))
            go_ret
            exact ⟨_, by first | rfl | (simp [errW_none, errW_some] <;> rfl) | (simp only [← hji27]; first | rfl | (simp [errW_none, errW_some] <;> rfl)) | (simp [*, errW_none, errW_some] <;> rfl), by (with_reducible repeat (first | apply Kd.N_alloc | apply Kd.N_drewN | apply Kd.N_drew)); exact HO205.out, by repeat (first | (with_reducible first | exact HB.out | apply below_alloc | apply pw_below_drewN | apply below_drew1) | exact HB.out)⟩
          · rw [if_neg c29] at H
            exact absurd H (by simp)
        · rw [if_neg c28] at H
          exact absurd H (by simp)

-- NOT PRINTED: function 32 (block_Block_32)

/-! ### block_Same: function 25, by hand -/
def block_Same.eqB (x y : S43) : Bool := (x.f0 == y.f0) && (x.f1 == y.f1)
def block_Same.sm : List (S43) → List (S43) → Bool
  | [], [] => true
  | x :: xs, y :: ys => block_Same.eqB x y && block_Same.sm xs ys
  | _, _ => false
def block_Same.fine (l : List (S43)) : Prop := ∀ x ∈ l, ∀ b ∈ x.f1, 0 ≤ b ∧ b < 256
instance (l : List (S43)) : Decidable (block_Same.fine l) := by unfold block_Same.fine; exact inferInstance
def block_Same.f (l0 l1 : List (S43)) : Option Bool := if block_Same.fine l0 ∧ block_Same.fine l1 then some (block_Same.sm l0 l1) else none
theorem block_Same.bytes_eq (xs ys : List Int) (hx : ∀ b ∈ xs, 0 ≤ b ∧ b < 256) (hy : ∀ b ∈ ys, 0 ≤ b ∧ b < 256) : (Lib.bytesOf xs == Lib.bytesOf ys) = (xs == ys) := by
  rw [Bool.eq_iff_iff, beq_iff_eq, beq_iff_eq]
  refine ⟨fun h => ?_, fun h => by rw [h]⟩
  have hl : xs.length = ys.length := by have := congrArg List.length h; simpa [Lib.bytesOf] using this
  apply List.ext_getElem hl
  intro i h1 h2
  have e : (Lib.bytesOf xs)[i]? = (Lib.bytesOf ys)[i]? := by rw [h]
  simp only [Lib.bytesOf, List.getElem?_map, List.getElem?_eq_getElem h1, List.getElem?_eq_getElem h2, Option.map_some, Option.some.injEq] at e
  have e2 := congrArg UInt8.toNat e
  have bx := hx _ (List.getElem_mem h1)
  have by_ := hy _ (List.getElem_mem h2)
  rw [UInt8.toNat_ofNat_of_lt' (by simp [UInt8.size]; omega), UInt8.toNat_ofNat_of_lt' (by simp [UInt8.size]; omega)] at e2
  omega
theorem block_Same.bytes_in {w : World} {A : Option Addr} {xs : List Int} (h : Kd.C (Kd.int .u8) w A xs.length xs) : Lib.BytesIn w A xs.length xs := by
  cases A with
  | none =>
    intro hn
    obtain ⟨ad, he, _⟩ := Kd.at_int h 0 (by omega) (by omega)
    cases he
  | some a =>
    refine Lib.BytesIn.of_cells (fun i hi => ?_)
    obtain ⟨ad, he, hc⟩ := Kd.at_int h (i : Int) (by omega) (by omega)
    cases he
    simpa [rd] using hc
set_option maxHeartbeats 400000 in
theorem block_Same.one (x y : S43) (A0 A1 : Option Addr) (c0 c1 : Nat) (w : World) (hx : ∀ b ∈ x.f1, 0 ≤ b ∧ b < 256) (hy : ∀ b ∈ y.f1, 0 ≤ b ∧ b < 256) (h0 : Kd.C (Kd.int .u8) w A0 x.f1.length x.f1) (h1 : Kd.C (Kd.int .u8) w A1 y.f1.length y.f1) :
    Calls Try.prog 33 #[.agg #[.int .u8 x.f0, .slice A0 x.f1.length c0], .agg #[.int .u8 y.f0, .slice A1 y.f1.length c1]] w fun e w' => e = .returned (.bool (block_Same.eqB x y)) ∧ Below w.heap.size w w' := by
  obtain ⟨k, d⟩ := x
  obtain ⟨k2, d2⟩ := y
  unfold block_Same.eqB
  dsimp only at *
  have H0 := Aside0.mk h0
  have H1 := Aside0.mk h1
  have HE := Aside0.mk (block_Same.bytes_eq d d2 hx hy)
  clear hx hy h0 h1
  by_cases hk : k = k2
  · have t1 : (k == k2) = true := by simpa using hk
    rw [t1, Bool.true_and]
    clear hk
    go_enter Try.func33, Try.ntmps33
    go_wp2_with (go_at_call 34; refine (Try.bytes_Equal_all A0 A1 d.length c0 d2.length c1 d d2 _ rfl rfl (block_Same.bytes_in (Kd.C_below H0.out (below_alloc (below_alloc (Below.refl _ _) _) _))) (block_Same.bytes_in (Kd.C_below H1.out (below_alloc (below_alloc (Below.refl _ _) _) _)))).mono ?_; rintro e w' ⟨rfl, rfl⟩)
    go_ret
    exact ⟨congrArg (fun b => Ending.returned (.bool b)) HE.out, below_alloc (below_alloc (Below.refl _ _) _) _⟩
  · have t1 : (k == k2) = false := by simpa using hk
    rw [t1, Bool.false_and]
    clear hk
    go_enter Try.func33, Try.ntmps33
    go_wp2
    go_ret
    exact ⟨rfl, below_alloc (below_alloc (Below.refl _ _) _) _⟩
theorem block_Same.sm_len : ∀ (l0 l1 : List (S43)), l0.length ≠ l1.length → block_Same.sm l0 l1 = false
  | [], [], h => absurd rfl h
  | [], _ :: _, _ => rfl
  | _ :: _, [], _ => rfl
  | x :: xs, y :: ys, h => by
    unfold block_Same.sm
    rw [block_Same.sm_len xs ys (fun e => h (by simp [e])), Bool.and_false]
theorem block_Same.sm_at (z : S43) : ∀ (l0 l1 : List (S43)) (i : Nat), i < l0.length → i < l1.length → block_Same.sm (l0.take (i + 1)) (l1.take (i + 1)) = (block_Same.sm (l0.take i) (l1.take i) && block_Same.eqB (l0.getD i z) (l1.getD i z))
  | [], _, _, h, _ => absurd h (Nat.not_lt_zero _)
  | _ :: _, [], _, _, h => absurd h (Nat.not_lt_zero _)
  | x :: xs, y :: ys, 0, _, _ => by simp only [List.take_succ_cons, List.take_zero, block_Same.sm, List.getD_cons_zero, Bool.and_true, Bool.true_and]
  | x :: xs, y :: ys, i + 1, h0, h1 => by
    simp only [List.take_succ_cons, block_Same.sm, List.getD_cons_succ]
    have ih := block_Same.sm_at z xs ys i (by simpa using h0) (by simpa using h1)
    rw [ih, Bool.and_assoc]
theorem block_Same.sm_no (z : S43) : ∀ (l0 l1 : List (S43)) (i : Nat), i < l0.length → i < l1.length → block_Same.eqB (l0.getD i z) (l1.getD i z) = false → block_Same.sm l0 l1 = false
  | [], _, _, h, _, _ => absurd h (Nat.not_lt_zero _)
  | _ :: _, [], _, _, h, _ => absurd h (Nat.not_lt_zero _)
  | x :: xs, y :: ys, 0, _, _, h => by simp only [List.getD_cons_zero] at h; rw [block_Same.sm, h, Bool.false_and]
  | x :: xs, y :: ys, i + 1, h0, h1, h => by
    simp only [List.getD_cons_succ] at h
    rw [block_Same.sm, block_Same.sm_no z xs ys i (by simpa using h0) (by simpa using h1) h, Bool.and_false]
theorem block_Same.fine_at {l : List (S43)} (h : block_Same.fine l) (i : Int) : ∀ b ∈ (rd_T43 l i).f1, 0 ≤ b ∧ b < 256 := by
  unfold rd_T43
  rw [List.getD_eq_getElem?_getD]
  cases hx : l[i.toNat]? with
  | none => intro b hb; cases hb
  | some x => exact h x (List.mem_of_getElem? hx)
set_option maxHeartbeats 400000 in
set_option maxRecDepth 100000 in
theorem block_Same.func (A0 : Option Addr) (c0 : Nat) (l0 : List (S43)) (A1 : Option Addr) (c1 : Nat) (l1 : List (S43)) (w : World) (hr0 : Kd.C k43 w A0 l0.length l0) (hr1 : Kd.C k43 w A1 l1.length l1) (hf0 : block_Same.fine l0) (hf1 : block_Same.fine l1) :
    Calls Try.prog 32 #[.slice A0 l0.length c0, .slice A1 l1.length c1, .func (.func 33) #[] #[]] w fun e w' => e = .returned (.bool (block_Same.sm l0 l1)) ∧ Below w.heap.size w w' := by
  by_cases hl : l0.length = l1.length
  · have H0 := Aside0.mk hr0
    have H1 := Aside0.mk hr1
    have HF := Aside0.mk (And.intro hf0 hf1)
    have HL := Aside0.mk hl
    have hm0 := hr0.2.1
    have t1 : ((l0.length : Int) != (l1.length : Int)) = false := by rw [bne_eq_false_iff_eq]; omega
    have HSM := Aside0.mk (block_Same.sm_at z43 l0 l1)
    have HNO := Aside0.mk (block_Same.sm_no z43 l0 l1)
    clear hr0 hr1 hf0 hf1 hl
    go_enter Try.func32, Try.ntmps32
    go_wp2
    go_loopg [17] l0.length (fun kq v17 w' => ∃ i : Int, v17 = .int .i64 i ∧ Aside0 (0 ≤ i ∧ i + kq = l0.length) ∧ Aside0 (block_Same.sm (l0.take i.toNat) (l1.take i.toNat) = true) ∧ Aside0 (Below w.heap.size w w'))
    case atStart => exact ⟨0, rfl, ⟨by omega⟩, ⟨rfl⟩, ⟨Below.refl _ _⟩⟩
    case round =>
      obtain ⟨i, rfl, HI, HS, HB⟩ := hrel
      by_cases hi : i < (l0.length : Int)
      · have hI := HI.out
        have hLL := HL.out
        obtain ⟨ad0, B0, d0, e0, x00, x01, xl0, xc0⟩ := at_T43 H0.out i (by omega) hi
        obtain ⟨ad1, B1, d1, e1, x10, x11, xl1, xc1⟩ := at_T43 H1.out i (by omega) (by omega)
        subst e0 e1
        replace x00 := pw_cell_below HB.out x00
        replace x01 := pw_cell_below HB.out x01
        replace x10 := pw_cell_below HB.out x10
        replace x11 := pw_cell_below HB.out x11
        have K0 := Aside0.mk (Kd.C_below xc0 HB.out)
        have K1 := Aside0.mk (Kd.C_below xc1 HB.out)
        have y10 := pw_cell_below (below_alloc (Below.refl wr.heap.size wr) (.cells #[Value.int .u8 (rd_T43 l0 i).f0, .slice B0 (rd_T43 l0 i).f1.length d0] 43)) x10
        have y11 := pw_cell_below (below_alloc (Below.refl wr.heap.size wr) (.cells #[Value.int .u8 (rd_T43 l0 i).f0, .slice B0 (rd_T43 l0 i).f1.length d0] 43)) x11
        have q0 := eq_true (show 0 ≤ i by omega)
        have q1 := eq_true hi
        have q2 := eq_true (show i < (l1.length : Int) by omega)
        have s1 : decide (i < (l0.length : Int)) = true := decide_eq_true hi
        have WW := Aside0.mk (show wrap64 (i + 1) = i + 1 by unfold wrap64; omega)
        have hN : i.toNat < l0.length ∧ i.toNat < l1.length := by omega
        have HN := Aside0.mk hN
        have hE : block_Same.sm (l0.take (i + 1).toNat) (l1.take (i + 1).toNat) = block_Same.eqB (rd_T43 l0 i) (rd_T43 l1 i) := by
          rw [show (i + 1).toNat = i.toNat + 1 by omega, HSM.out i.toNat hN.1 hN.2, HS.out, Bool.true_and]; rfl
        have HE := Aside0.mk hE
        have HI2 := Aside0.mk (show (0 ≤ i + 1 ∧ (i + 1) + ((gk - 1 : Nat) : Int) = l0.length) ∧ gk - 1 < gk by omega)
        have FN := Aside0.mk (And.intro (block_Same.fine_at HF.out.1 i) (block_Same.fine_at HF.out.2 i))
        clear xl0 xl1 xc0 xc1 hE hI hLL hN hi
        go_wp2_with fail
        have hbb := below_alloc (below_alloc (Below.refl wr.heap.size wr) (.cells #[Value.int .u8 (rd_T43 l0 i).f0, .slice B0 (rd_T43 l0 i).f1.length d0] 43)) (.cells #[Value.int .u8 (rd_T43 l1 i).f0, .slice B1 (rd_T43 l1 i).f1.length d1] 43)
        have HBB := Aside0.mk (HB.out.trans (hbb.mono (below_size HB.out)))
        refine (block_Same.one (rd_T43 l0 i) (rd_T43 l1 i) B0 B1 d0 d1 _ FN.out.1 FN.out.2 (Kd.C_below K0.out hbb) (Kd.C_below K1.out hbb)).mono ?_
        clear hbb x00 x01 x10 x11 y10 y11
        rintro e w2 ⟨rfl, hb⟩
        have HB2 := Aside0.mk (HBB.out.trans (hb.mono (below_size HBB.out)))
        clear hb
        cases hq : block_Same.eqB (rd_T43 l0 i) (rd_T43 l1 i) with
        | true =>
          rw [hq] at HE
          clear hq
          go_wp2_with fail
          go_roundg (gk - 1)
          case measure => have := HI2.out.2; omega
          case rel => exact ⟨i + 1, by rw [WW.out], ⟨HI2.out.1⟩, HE, HB2⟩
        | false =>
          have HR := Aside0.mk (HNO.out i.toNat HN.out.1 HN.out.2 hq)
          clear hq
          go_wp2_with fail
          go_ret
          exact ⟨congrArg (fun b => Ending.returned (.bool b)) HR.out.symm, HB2.out⟩
      · have hI := HI.out
        have hin : i = (l0.length : Int) := by omega
        subst hin
        have hLL := HL.out
        have hS := HS.out
        rw [Int.toNat_natCast, List.take_length, hLL, List.take_length] at hS
        have HR := Aside0.mk hS
        have s1 : decide ((l0.length : Int) < (l0.length : Int)) = false := decide_eq_false (by omega)
        clear hS hLL hI hi HI HS
        go_wp2_with fail
        go_ret
        exact ⟨congrArg (fun b => Ending.returned (.bool b)) HR.out.symm, HB.out⟩
  · have t1 : ((l0.length : Int) != (l1.length : Int)) = true := by rw [bne_iff_ne]; omega
    have HE := Aside0.mk (block_Same.sm_len l0 l1 hl)
    clear hr0 hr1 hf0 hf1 hl
    go_enter Try.func32, Try.ntmps32
    go_wp2
    go_ret
    exact ⟨congrArg (fun b => Ending.returned (.bool b)) HE.out.symm, Below.refl _ _⟩
set_option maxHeartbeats 400000 in
theorem block_Same.calls (A0 : Option Addr) (c0 : Nat) (l0 : List (S43)) (A1 : Option Addr) (c1 : Nat) (l1 : List (S43)) (r : Bool) (w : World) (hr0 : Kd.C k43 w A0 l0.length l0) (hc0 : l0.length ≤ c0) (hr1 : Kd.C k43 w A1 l1.length l1) (hc1 : l1.length ≤ c1) (h : block_Same.f l0 l1 = some r) :
    Calls Try.prog 25 #[.slice A0 l0.length c0, .slice A1 l1.length c1] w fun e w' => e = .returned (.bool r) ∧ Below w.heap.size w w' := by
  unfold block_Same.f at h
  by_cases hf : block_Same.fine l0 ∧ block_Same.fine l1
  · rw [if_pos hf] at h
    obtain rfl := Option.some.inj h
    have HC := Aside0.mk (block_Same.func A0 c0 l0 A1 c1 l1 w hr0 hr1 hf.1 hf.2)
    clear h hr0 hr1 hc0 hc1 hf
    go_enter Try.func25, Try.ntmps25
    go_wp2_with fail
    refine HC.out.mono ?_
    rintro e w' ⟨rfl, hb⟩
    have HB := Aside0.mk hb
    clear hb
    go_wp2_with fail
    go_ret
    exact ⟨rfl, HB.out⟩
  · rw [if_neg hf] at h
    cases h

end Go.Proofs.Ytgpgoffnfdjhcaa.PBlockSides
