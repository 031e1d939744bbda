-- made by a program of this repo (wip/patch_print.py); not trusted: Lean checks it
import Derived.Test.YtgahcipgglkkhaaZPGrooveReadsx0
import Derived.Test.YtgahcipgglkkhaaZPGrooveReadsx5
-- squeezed
namespace Go.Proofs.Ytgahcipgglkkhaa.PGrooveReads
open Go.RowKit Go.Proofs.YtgahcipgglkkhaaW.PrintWords Go.Proofs.YtgahcipgglkkhaaW.PrintLast Go.Proofs.YtgahcipgglkkhaaW.PrintMore
attribute [local go_sem] max2_int min2_int max_two min_two max_three min_three max_four min_four   -- for this text's walks alone
set_option linter.unusedVariables false
set_option linter.unusedSimpArgs false

/-! ### groove_Read: function 15 -/
mutual
def groove_Read.l0 : Nat → List Int → List (S53) → Int → Option ((List (S53)) × Int)
 | 0, _, _, _ => none
 | k + 1, x0, x4, x5 => if (x4.length : Int) < 512 then (groove_Read.l1 k x0 x4 x5) else (some (x4, 0))
def groove_Read.j2 : Nat → List Int → List (S53) → Int → Option ((List (S53)) × Int)
 | 0, _, _, _ => none
 | k + 1, x0, x4, x5 => if x5 = (x0.length : Int) then (some (x4, 0)) else ((groove_one.f k x0 x5 x4).bind fun bt252 => (if bt252.2.2.2 = 0 then (if x4.length < 4398046511104 then (groove_Read.l0 k x0 (x4 ++ [(⟨bt252.1, bt252.2.1⟩ : S53)]) bt252.2.2.1) else (none)) else (some (([] : List (S53)), bt252.2.2.2))))
def groove_Read.l1 : Nat → List Int → List (S53) → Int → Option ((List (S53)) × Int)
 | 0, _, _, _ => none
 | k + 1, x0, x4, x5 => if x5 < (x0.length : Int) then (if 0 ≤ x5 then (if (rd x0 x5) = 0 then (groove_Read.l1 k x0 x4 (wrap64 (x5 + 1))) else (groove_Read.j2 k x0 x4 x5)) else (none)) else (groove_Read.j2 k x0 x4 x5)
end
def groove_Read.f (k : Nat) (l0 : List Int) : Option ((List (S53)) × Int) := groove_Read.l0 k l0 ([] : List (S53)) 0
set_option maxHeartbeats 8000000 in
set_option maxRecDepth 100000 in
theorem groove_Read.calls (k : Nat) (A0 : Option Addr) (c0 : Nat) (l0 : List Int) (r1 : List (S53)) (r2 : Int) (w : World) (hr0 : Kd.C (Kd.int .u8) w A0 l0.length l0) (hc0 : l0.length ≤ c0) (h : groove_Read.f k l0 = some (r1, r2)) :
  Calls Try.prog 15 #[.slice A0 l0.length c0] w fun e w' => ∃ v0_ : Value, e = .returned (.tuple #[v0_, .int .i64 r2]) ∧ Kd.N k53 53 w' w.heap.size (fun k_ => (w.heap.size ≤ k_)) v0_ r1 ∧ Below w.heap.size w w' := by
 have hu53 := Try.underlying53
 have HR0 := Aside0.mk hr0
 have HC0 := Aside0.mk hc0
 clear hr0 hc0
 have HB := Aside0.mk (Below.refl w.heap.size w)
 have H : (groove_Read.l0 k l0 ([] : List (S53)) 0) = some (r1, r2) := h
 clear h
 have H' := Aside0.mk H
 clear H
 go_enter Try.func15, Try.ntmps15
 go_wp2
 go_loopg [4, 5] k (fun kq v4 v5 w' => ∃ (x4_1 : List (S53)) (x5_1 : Int), v5 = .int .i64 x5_1 ∧ Aside0 (groove_Read.l0 kq l0 x4_1 x5_1 = some (r1, r2)) ∧ Aside0 (kq ≤ k) ∧ Aside0 (Kd.N k53 53 w' w.heap.size (fun k_ => (w.heap.size ≤ k_)) v4 x4_1) ∧ Aside0 (Below w.heap.size w w'))
 case atStart => exact ⟨(([] : List (S53))), (0), (by first | rfl | (simp; done) | (simp [*]; done)), H', ⟨Nat.le_refl _⟩, ⟨by first | exact Kd.S_nil _ _ _ _ _ | exact Kd.N_nil _ _ _ _ _ | exact Kd.V_nil _ _ _ _ _ | exact Kd.Q_nil _ _ _ _ _ | exact Kd.R_nil _ _ _ _ _⟩, ⟨by repeat (first | (with_reducible first | exact HB.out | apply below_alloc | apply pw_below_drewN | apply below_drew1) | exact HB.out)⟩⟩
 case round =>
  clear H'
  try clear c1
  obtain ⟨x4_1, x5_1, rfl, HA, HK1, HO_4, HB⟩ := hrel
  cases gk with
  | zero => exact absurd HA.out (fun hq_ => by have h2_ : (none : Option _) = some _ := hq_; cases h2_)
  | succ k1 =>
   have H := HA.out
   clear HA
   unfold groove_Read.l0 at H
   by_cases c2 : (x4_1.length : Int) < 512
   ·rw [if_pos c2] at H
    have c2b0 : decide ((x4_1.length : Int) < 512) = true := decide_eq_true c2
    have c2b1 : decide (x4_1.length < 512) = true := decide_eq_true (by omega)
    clear c2
    have HC3 := Aside0.mk H
    clear H
    obtain ⟨Ao4, co4, eo4⟩ := Kd.N_slice HO_4.out
    subst eo4
    go_upto_block 2 with (fail)
    go_cut [5] (fun v5 wc => ∃ (kq : Nat) (x5_2 : Int), v5 = .int .i64 x5_2 ∧ Aside0 (groove_Read.j2 kq l0 x4_1 x5_2 = some (r1, r2)) ∧ Aside0 (kq ≤ k1) ∧ Aside0 (Kd.N k53 53 wc w.heap.size (fun k_ => (w.heap.size ≤ k_)) (.slice Ao4 x4_1.length co4) x4_1) ∧ Aside0 (Below w.heap.size w wc))
    case first =>
     have H := HC3.out
     clear HC3
     have H' := Aside0.mk H
     clear H
     go_wp2
     go_loopg [5] k1 (fun kq v5 w' => ∃ (x5_2 : Int), v5 = .int .i64 x5_2 ∧ Aside0 (groove_Read.l1 kq l0 x4_1 x5_2 = some (r1, r2)) ∧ Aside0 (kq ≤ k1) ∧ Aside0 (Kd.N k53 53 w' w.heap.size (fun k_ => (w.heap.size ≤ k_)) (.slice Ao4 x4_1.length co4) x4_1) ∧ Aside0 (Below w.heap.size w w'))
     case atStart => exact ⟨(x5_1), (by first | rfl | (simp; done) | (simp [*]; done)), H', ⟨Nat.le_refl _⟩, ⟨by (with_reducible repeat (first | apply Kd.N_alloc | apply Kd.N_drewN | apply Kd.N_drew)); exact HO_4.out⟩, ⟨by repeat (first | (with_reducible first | exact HB.out | apply below_alloc | apply pw_below_drewN | apply below_drew1) | exact HB.out)⟩⟩
     case round =>
      clear H'
      try clear c1
      try clear c2
      try clear c2b0
      try clear c2b1
      try clear p2
      obtain ⟨x5_2, rfl, HA, HK2, HO_4, HB⟩ := hrel
      cases gk with
      | zero => exact absurd HA.out (fun hq_ => by have h2_ : (none : Option _) = some _ := hq_; cases h2_)
      | succ k2 =>
       have H := HA.out
       clear HA
       unfold groove_Read.l1 at H
       by_cases c5 : x5_2 < (l0.length : Int)
       ·rw [if_pos c5] at H
        have c5b0 : decide (x5_2 < (l0.length : Int)) = true := decide_eq_true c5
        clear c5
        (first | rw [c5b0] | (simp only [i64_w, i32_w]; rw [c5b0]) | skip)
        by_cases c6 : 0 ≤ x5_2
        ·rw [if_pos c6] at H
         have c6b0 : decide (0 ≤ x5_2) = true := decide_eq_true c6
         clear c6
         by_cases c7 : (rd l0 x5_2) = 0
         ·rw [if_pos c7] at H
          have c7b0 : ((rd l0 x5_2) == 0) = true := beq_iff_eq.mpr c7
          have c7b1 : ((rd l0 x5_2) != 0) = false := bne_eq_false_iff_eq.mpr c7
          clear c7
          have H' := Aside0.mk H
          clear H
          have p251 : 0 ≤ (x5_2 : Int) := of_decide_eq_true (by first | (with_reducible assumption) | assumption)
          have q251 : x5_2 < (l0.length : Int) := of_decide_eq_true (by first | (with_reducible assumption) | assumption)
          obtain ⟨ad251, e251, hx251_0⟩ := Kd.at_int HR0.out x5_2 p251 q251
          cases e251
          replace hx251_0 := (HB.out.cell (World.block_lt_of_cell? w _ hx251_0)).trans hx251_0
          replace p251 := eq_true p251
          replace q251 := eq_true q251
          go_wp2
          go_roundg k2
          case measure => have := HK1.out; have := HK2.out; omega
          case rel => exact ⟨(wrap64 (x5_2 + 1)), (by first | rfl | (simp; done) | (simp [*]; done)), H', ⟨by have := HK1.out; have := HK2.out; omega⟩, ⟨by (with_reducible repeat (first | apply Kd.N_alloc | apply Kd.N_drewN | apply Kd.N_drew)); exact HO_4.out⟩, ⟨by repeat (first | (with_reducible first | exact HB.out | apply below_alloc | apply pw_below_drewN | apply below_drew1) | exact HB.out)⟩⟩
         ·rw [if_neg c7] at H
          have c7b0 : ((rd l0 x5_2) == 0) = false := beq_eq_false_iff_ne.mpr c7
          have c7b1 : ((rd l0 x5_2) != 0) = true := bne_iff_ne.mpr c7
          have H' := Aside0.mk H
          clear H
          have p251 : 0 ≤ (x5_2 : Int) := of_decide_eq_true (by first | (with_reducible assumption) | assumption)
          have q251 : x5_2 < (l0.length : Int) := of_decide_eq_true (by first | (with_reducible assumption) | assumption)
          obtain ⟨ad251, e251, hx251_0⟩ := Kd.at_int HR0.out x5_2 p251 q251
          cases e251
          replace hx251_0 := (HB.out.cell (World.block_lt_of_cell? w _ hx251_0)).trans hx251_0
          replace p251 := eq_true p251
          replace q251 := eq_true q251
          go_wp2
          go_meet
          case rel => exact ⟨_, (x5_2), (by first | rfl | (simp; done) | (simp [*]; done)), H', ⟨by have := HK1.out; have := HK2.out; first | omega | exact Nat.le_refl _⟩, ⟨by (with_reducible repeat (first | apply Kd.N_alloc | apply Kd.N_drewN | apply Kd.N_drew)); exact HO_4.out⟩, ⟨by repeat (first | (with_reducible first | exact HB.out | apply below_alloc | apply pw_below_drewN | apply below_drew1) | exact HB.out)⟩⟩
        ·rw [if_neg c6] at H
         exact absurd H (by simp)
       ·rw [if_neg c5] at H
        have c5b0 : decide (x5_2 < (l0.length : Int)) = false := decide_eq_false c5
        clear c5
        (first | rw [c5b0] | (simp only [i64_w, i32_w]; rw [c5b0]) | skip)
        have H' := Aside0.mk H
        clear H
        go_wp2
        go_meet
        case rel => exact ⟨_, (x5_2), (by first | rfl | (simp; done) | (simp [*]; done)), H', ⟨by have := HK1.out; have := HK2.out; first | omega | exact Nat.le_refl _⟩, ⟨by (with_reducible repeat (first | apply Kd.N_alloc | apply Kd.N_drewN | apply Kd.N_drew)); exact HO_4.out⟩, ⟨by repeat (first | (with_reducible first | exact HB.out | apply below_alloc | apply pw_below_drewN | apply below_drew1) | exact HB.out)⟩⟩
    case rest =>
     clear HC3
     try clear c1
     try clear c2
     try clear c2b0
     try clear c2b1
     try clear p2
     try clear q2
     try clear hx2
     try clear c5
     try clear c5b0
     try clear c6
     try clear c6b0
     try clear p6
     try clear c7
     try clear c7b0
     try clear c7b1
     try clear hx251_0
     try clear p2
     try clear p251
     try clear q251
     obtain ⟨kq, x5_2, rfl, HA, HJ2, HO_4, HB⟩ := hcut
     cases kq with
     | zero => exact absurd HA.out (fun hq_ => by have h2_ : (none : Option _) = some _ := hq_; cases h2_)
     | succ kj2 =>
      have H := HA.out
      clear HA
      unfold groove_Read.j2 at H
      by_cases c8 : x5_2 = (l0.length : Int)
      ·rw [if_pos c8] at H
       have c8b0 : (x5_2 == (l0.length : Int)) = true := beq_iff_eq.mpr c8
       have c8b1 : (x5_2 != (l0.length : Int)) = false := bne_eq_false_iff_eq.mpr c8
       clear c8
       simp only [Option.some.injEq, Prod.mk.injEq] at H
       obtain ⟨rfl, rfl⟩ := H
       go_wp2
       go_ret2
       exact ⟨_, by first | rfl | (simp [errW_none, errW_some] <;> rfl) | (simp [*, errW_none, errW_some] <;> rfl), by (with_reducible repeat (first | apply Kd.N_alloc | apply Kd.N_drewN | apply Kd.N_drew)); exact HO_4.out, by repeat (first | (with_reducible first | exact HB.out | apply below_alloc | apply pw_below_drewN | apply below_drew1) | exact HB.out)⟩
      ·rw [if_neg c8] at H
       have c8b0 : (x5_2 == (l0.length : Int)) = false := beq_eq_false_iff_ne.mpr c8
       have c8b1 : (x5_2 != (l0.length : Int)) = true := bne_iff_ne.mpr c8
       replace H := Option.bind_eq_some_iff.mp H
       obtain ⟨⟨t252, t253, t256, t257⟩, A90, H⟩ := H
       replace H : (if t257 = 0 then (if x4_1.length < 4398046511104 then (groove_Read.l0 kj2 l0 (x4_1 ++ [(⟨t252, t253⟩ : S53)]) t256) else (none)) else (some (([] : List (S53)), t257))) = some (r1, r2) := H
       have A9 := Aside0.mk A90
       clear A90
       by_cases c10 : t257 = 0
       ·rw [if_pos c10] at H
        have c10b0 : (t257 == 0) = true := beq_iff_eq.mpr c10
        have c10b1 : (t257 != 0) = false := bne_eq_false_iff_eq.mpr c10
        clear c10
        by_cases c11 : x4_1.length < 4398046511104
        ·rw [if_pos c11] at H
         have LMc11 := Aside0.mk c11
         clear c11
         obtain ⟨y259, hy259⟩ : ∃ y_ : List (S53), y_ = (x4_1 ++ [(⟨t252, t253⟩ : S53)]) := ⟨_, rfl⟩
         replace H : (groove_Read.l0 kj2 l0 y259 t256) = some (r1, r2) := by first | (rw [hy259]; with_reducible exact H) | (have H2_ := (Option.bind_some _ _).symm.trans H; rw [hy259]; with_reducible exact H2_) | (have H2_ := (Option.bind_some _ _).symm.trans H; with_reducible exact H2_) | with_reducible exact H | (rw [hy259]; exact H) | exact H
         have Ny259 := Aside0.mk hy259
         clear hy259
         have H' := Aside0.mk H
         clear H
         go_wp2_with (first | ((with_reducible refine gate_callee (f := 27) rfl ?_); refine goesL_ (some 33) rfl rfl Try.func27 (by kernel_rfl) rfl #[.slice A0 l0.length c0, .int .i64 x5_2, .slice Ao4 x4_1.length co4] rfl (by (try simp only [List.map_toArray, List.map_cons, List.map_nil]); first | done | rfl | (simp only [List.length_drop, List.length_take]; rfl)) ?_; (with_reducible refine (groove_one.calls kj2 _ _ l0 x5_2 _ _ x4_1 t252 t253 t256 t257 _ ?side1 ?side2 ?side3 ?side4 A9.out).mono ?_); (case side1 => repeat (first | exact (Kd.C_below HR0.out HB.out) | (with_reducible refine Kd.C_alloc ?_ _) | (with_reducible refine Kd.C_drewN ?_ _) | (with_reducible refine Kd.C_drew ?_))); (case side2 => exact HC0.out); (case side3 => repeat (first | exact (Kd.N_reads' HO_4.out).2.2 | (with_reducible refine Kd.C_alloc ?_ _) | (with_reducible refine Kd.C_drewN ?_ _) | (with_reducible refine Kd.C_drew ?_))); (case side4 => exact (Kd.N_reads' HO_4.out).2.1); rintro e w12 ⟨v254, rfl, ho0, hb⟩; refine ⟨_, rfl, ?_⟩; have n0_ := Aside0.mk (Kd.N_below (by (with_reducible repeat (first | apply Kd.N_alloc | apply Kd.N_drewN | apply Kd.N_drew)); exact HO_4.out) hb); have n1_ := Aside0.mk (Kd.V_lower (Kd.V_mono (ok' := fun k_ => (w.heap.size ≤ k_) ∧ some k_ ≠ (.slice Ao4 x4_1.length co4 : Value).ownBlock) ho0 (fun k_ hk_ => ⟨(Nat.le_trans (below_size (by repeat (first | (with_reducible first | exact HB.out | apply below_alloc | apply pw_below_drewN | apply below_drew1) | exact HB.out))) hk_), (Kd.fresh' (Kd.N_lt (by (with_reducible repeat (first | apply Kd.N_alloc | apply Kd.N_drewN | apply Kd.N_drew)); exact HO_4.out)) k_ hk_)⟩)) (below_size (by repeat (first | (with_reducible first | exact HB.out | apply below_alloc | apply pw_below_drewN | apply below_drew1) | exact HB.out)))); have n2_ := Aside0.mk (below_step (by repeat (first | (with_reducible first | exact HB.out | apply below_alloc | apply pw_below_drewN | apply below_drew1) | exact HB.out)) hb); clear HO_4; clear HB; have HO_4 := n0_; have HO255 := n1_; have HB := n2_; clear n0_ n1_ n2_; (try clear hb); (try clear hb2); (try clear hk); (try clear hi); (try clear ho0)) | ((with_reducible refine gate_dst (N := 6) rfl ?_); refine box_event ?hg (N := 6) ?hd (cs := #[.int .u8 0, .slice none 0 0]) (t := 53) ?hr ?_; (case hd => rfl); (case hg => rfl); (case hr => first | (go_simp; done) | (go_simp; rfl)); intro gb258 hg w13 hbox hb; have n0_ := Aside0.mk (Kd.N_below (Kd.N_elderB (by (with_reducible repeat (first | apply Kd.N_alloc | apply Kd.N_drewN | apply Kd.N_drew)); exact HO_4.out) gb258 (Nat.le_of_eq hg.symm)) hb); have n1_ := Aside0.mk (Kd.V_below (Kd.V_elderB (by (with_reducible repeat (first | apply Kd.V_alloc | apply Kd.V_drewN | apply Kd.V_drew)); exact HO255.out) gb258 (Nat.le_of_eq hg.symm)) hb); have n2_ := Aside0.mk (below_step (by repeat (first | (with_reducible first | exact HB.out | apply below_alloc | apply pw_below_drewN | apply below_drew1) | exact HB.out)) hb); have n3_ := Aside0.mk (hbox); have n4_ := Aside0.mk ((by rw [hg]; exact (below_size (by repeat (first | (with_reducible first | exact HB.out | apply below_alloc | apply pw_below_drewN | apply below_drew1) | exact HB.out))) : w.heap.size ≤ gb258)); have n5_ := Aside0.mk ((by rw [hg]; exact (below_size (by repeat (first | (with_reducible first | exact HB.out | apply below_alloc | apply pw_below_drewN | apply below_drew1) | exact HB.out))) : w.heap.size ≤ gb258)); clear HO_4; clear HO255; clear HB; have HO_4 := n0_; have HO255 := n1_; have HB := n2_; have BK258 := n3_; have GW258 := n4_; have GE258 := n5_; clear n0_ n1_ n2_ n3_ n4_ n5_; clear hb hbox hg; have hcz14_0 : w13.cell? ⟨gb258, 0, none⟩ = some (.int .u8 0) := (blk_cell BK258.out 0).trans rfl; have hcz14_1 : w13.cell? ⟨gb258, 1, none⟩ = some (.slice none 0 0) := (blk_cell BK258.out 1).trans rfl; have hfz14_0 := blk_frozen BK258.out 0; have hfz14_1 := blk_frozen BK258.out 1; obtain ⟨Ao15, co15, eo15⟩ := Kd.V_slice HO255.out; subst eo15) | ((with_reducible refine gate_store (t := 53) (p := 6) rfl ?_); refine store_event (t := 53) (p := 6) (v := ?vo_w16) (w1 := ((w13.setCell ⟨gb258, 0, none⟩ (.int .u8 t252)).setCell ⟨gb258, 1, none⟩ (.slice Ao15 t253.length co15))) ?hg ?ho ?hn ?hr ?_; (case ho => rfl); (case hg => rfl); (case hn => rfl); (case hr => first | (go_simp; done) | (go_simp; rfl)); intro w16 hw; have n0_ : Aside0 (Kd.N k53 53 w16 w.heap.size (fun k_ => (w.heap.size ≤ k_) ∧ k_ ≠ gb258) (.slice Ao4 x4_1.length co4) x4_1) := ⟨(by rw [hw]; exact (by (with_reducible repeat (first | apply Kd.N_alloc | apply Kd.N_drewN | apply Kd.N_drew)); exact Kd.N_mono (Kd.N_far (p := ⟨gb258, 1, none⟩) (Kd.N_far (p := ⟨gb258, 0, none⟩) (Kd.N_mono HO_4.out (fun k_ hk => (⟨hk, hk.2⟩ : _ ∧ k_ ≠ gb258))) (fun _ hk => hk.2) (.int .u8 t252)) (fun _ hk => hk.2) (.slice Ao15 t253.length co15)) (fun _ hk => ⟨hk.1.1, hk.1.2⟩)))⟩; have n1_ : Aside0 (Kd.V (Kd.int .u8) 5 w16 w.heap.size (fun k_ => (w.heap.size ≤ k_) ∧ some k_ ≠ (.slice Ao4 x4_1.length co4 : Value).ownBlock ∧ k_ ≠ gb258) (.slice Ao15 t253.length co15) t253) := ⟨(by rw [hw]; exact (by (with_reducible repeat (first | apply Kd.V_alloc | apply Kd.V_drewN | apply Kd.V_drew)); exact Kd.V_mono (Kd.V_far (p := ⟨gb258, 1, none⟩) (Kd.V_far (p := ⟨gb258, 0, none⟩) (Kd.V_mono HO255.out (fun k_ hk => (⟨hk, hk.2⟩ : _ ∧ k_ ≠ gb258))) (fun _ hk => hk.2) (.int .u8 t252)) (fun _ hk => hk.2) (.slice Ao15 t253.length co15)) (fun _ hk => ⟨hk.1.1.1, ⟨hk.1.1.2, hk.1.2⟩⟩)))⟩; have n2_ : Aside0 (w16.heap[gb258]? = some (.cells #[.int .u8 t252, .slice Ao15 t253.length co15] 53 (0, 0))) := ⟨(by rw [hw]; exact (by (with_reducible repeat (first | refine blk_drewN ?_ _ | refine blk_drew ?_ | refine blk_alloc ?_ _)); refine blk_put (cs := #[.int .u8 t252, .slice none 0 0]) ?_ 1 _ rfl; (with_reducible repeat (first | refine blk_drewN ?_ _ | refine blk_drew ?_ | refine blk_alloc ?_ _)); refine blk_put (cs := #[.int .u8 0, .slice none 0 0]) ?_ 0 _ rfl; (with_reducible repeat (first | refine blk_drewN ?_ _ | refine blk_drew ?_ | refine blk_alloc ?_ _)); exact BK258.out))⟩; have n3_ : Aside0 (Below w.heap.size w w16) := ⟨(by rw [hw]; exact (by repeat (first | (with_reducible first | exact HB.out | apply below_alloc | apply pw_below_drewN | apply below_drew1 | refine below_set ?_ GE258.out) | exact HB.out)))⟩; clear hw; clear HO_4; clear HO255; clear BK258; clear HB; have HO_4 := n0_; have HO255 := n1_; have BK258 := n2_; have HB := n3_; clear n0_ n1_ n2_ n3_; have hcz17_0 : w16.cell? ⟨gb258, 0, none⟩ = some (.int .u8 t252) := (blk_cell BK258.out 0).trans rfl; have hcz17_1 : w16.cell? ⟨gb258, 1, none⟩ = some (.slice Ao15 t253.length co15) := (blk_cell BK258.out 1).trans rfl; have hfz17_0 := blk_frozen BK258.out 0; have hfz17_1 := blk_frozen BK258.out 1) | ((with_reducible refine gate_builtin (b := .append) (xs := #[.tmp 40, .tmp 42]) rfl ?_); at_builtin; refine Kd.N_append k53 (w0 := w) w.heap.size rfl (.tmp 40) (.tmp 42) 35 53 (.agg #[(.int .u8 0), (.slice none 0 0)]) 32 rfl Try.underlying35 info53 rfl (by decide) (by omega) (.slice Ao4 x4_1.length co4) x4_1 (⟨t252, t253⟩ : S53) [.int .u8 t252, .slice Ao15 t253.length co15] (fun k_ => (w.heap.size ≤ k_) ∧ k_ ≠ gb258) (fun k_ => ((fun k_ => (w.heap.size ≤ k_) ∧ k_ ≠ gb258)) k_ ∧ some k_ ≠ (.slice Ao4 x4_1.length co4 : Value).ownBlock) rfl rfl ?aP (fun _ hk => hk) ?aF ?aO ?aB ?aS ?aL ?_; (case aP => exact (k53_mkF _ _ (⟨t252, t253⟩ : S53) (Kd.V_reads' (Kd.V_mono (ok' := (fun k_ => ((fun k_ => (w.heap.size ≤ k_) ∧ k_ ≠ gb258)) k_ ∧ some k_ ≠ (.slice Ao4 x4_1.length co4 : Value).ownBlock)) (HO255.out) (fun k_ hk => ⟨⟨hk.1, hk.2.2⟩, hk.2.1⟩))).2.1 (Kd.V_F (Kd.V_mono (ok' := (fun k_ => ((fun k_ => (w.heap.size ≤ k_) ∧ k_ ≠ gb258)) k_ ∧ some k_ ≠ (.slice Ao4 x4_1.length co4 : Value).ownBlock)) (HO255.out) (fun k_ hk => ⟨⟨hk.1, hk.2.2⟩, hk.2.1⟩))))); (case aB => exact (by repeat (first | (with_reducible first | exact HB.out | apply below_alloc | apply pw_below_drewN | apply below_drew1 | refine below_set ?_ GE258.out) | exact HB.out))); (case aF => exact (fun k_ hk => ⟨(Nat.le_trans (below_size (by repeat (first | (with_reducible first | exact HB.out | apply below_alloc | apply pw_below_drewN | apply below_drew1 | refine below_set ?_ GE258.out) | exact HB.out))) hk), Kd.freshB (g := gb258) (o := .cells #[.int .u8 t252, .slice Ao15 t253.length co15] 53 (0, 0)) (by (with_reducible repeat (first | refine blk_drewN ?_ _ | refine blk_drew ?_ | refine blk_alloc ?_ _)); exact BK258.out) k_ hk⟩)); (case aO => exact (by (with_reducible repeat (first | apply Kd.N_alloc | apply Kd.N_drewN | apply Kd.N_drew)); exact HO_4.out)); (case aS => exact (below_size (by repeat (first | (with_reducible first | exact HB.out | apply below_alloc | apply pw_below_drewN | apply below_drew1 | refine below_set ?_ GE258.out) | exact HB.out)))); (case aL => have := LMc11.out; omega); intro v260 w18 ho hb hg hat; rw [← Ny259.out] at ho; have n0_ := Aside0.mk (Kd.V_afterv (ok := (fun k_ => (w.heap.size ≤ k_) ∧ k_ ≠ gb258)) (by (with_reducible repeat (first | apply Kd.V_alloc | apply Kd.V_drewN | apply Kd.V_drew)); exact Kd.V_mono HO255.out (fun _ hk => ⟨⟨hk.1, hk.2.2⟩, hk.2.1⟩)) hg hat); have n1_ := Aside0.mk (blk_grown (g := gb258) (o := .cells #[.int .u8 t252, .slice Ao15 t253.length co15] 53 (0, 0)) (by (with_reducible repeat (first | refine blk_drewN ?_ _ | refine blk_drew ?_ | refine blk_alloc ?_ _)); exact BK258.out) hg (Kd.N_away HO_4.out (fun _ hk => hk.2))); have n2_ := Aside0.mk (hb); have n3_ := Aside0.mk (ho); clear HO255; clear BK258; clear HB; clear HO_4; have HO255 := n0_; have BK258 := n1_; have HB := n2_; have HO261 := n3_; clear n0_ n1_ n2_ n3_; clear ho hb hg hat))
         go_roundg kj2
         case measure => have := HK1.out; have := HJ2.out; omega
         case rel => exact ⟨(y259), (t256), (by first | rfl | (simp; done) | (simp [*]; done)), H', ⟨by have := HK1.out; have := HJ2.out; omega⟩, ⟨by (with_reducible repeat (first | apply Kd.N_alloc | apply Kd.N_drewN | apply Kd.N_drew)); exact Kd.N_mono HO261.out (fun _ hk => hk.1)⟩, ⟨by repeat (first | (with_reducible first | exact HB.out | apply below_alloc | apply pw_below_drewN | apply below_drew1 | refine below_set ?_ GE258.out) | exact HB.out)⟩⟩
        ·rw [if_neg c11] at H
         exact absurd H (by simp)
       ·rw [if_neg c10] at H
        have c10b0 : (t257 == 0) = false := beq_eq_false_iff_ne.mpr c10
        have c10b1 : (t257 != 0) = true := bne_iff_ne.mpr c10
        simp only [Option.some.injEq, Prod.mk.injEq] at H
        obtain ⟨rfl, rfl⟩ := H
        go_wp2_with (first | ((with_reducible refine gate_callee (f := 27) rfl ?_); refine goesL_ (some 33) rfl rfl Try.func27 (by kernel_rfl) rfl #[.slice A0 l0.length c0, .int .i64 x5_2, .slice Ao4 x4_1.length co4] rfl (by (try simp only [List.map_toArray, List.map_cons, List.map_nil]); first | done | rfl | (simp only [List.length_drop, List.length_take]; rfl)) ?_; (with_reducible refine (groove_one.calls kj2 _ _ l0 x5_2 _ _ x4_1 t252 t253 t256 t257 _ ?side1 ?side2 ?side3 ?side4 A9.out).mono ?_); (case side1 => repeat (first | exact (Kd.C_below HR0.out HB.out) | (with_reducible refine Kd.C_alloc ?_ _) | (with_reducible refine Kd.C_drewN ?_ _) | (with_reducible refine Kd.C_drew ?_))); (case side2 => exact HC0.out); (case side3 => repeat (first | exact (Kd.N_reads' HO_4.out).2.2 | (with_reducible refine Kd.C_alloc ?_ _) | (with_reducible refine Kd.C_drewN ?_ _) | (with_reducible refine Kd.C_drew ?_))); (case side4 => exact (Kd.N_reads' HO_4.out).2.1); rintro e w19 ⟨v254, rfl, ho0, hb⟩; refine ⟨_, rfl, ?_⟩; have n0_ := Aside0.mk (Kd.N_below (by (with_reducible repeat (first | apply Kd.N_alloc | apply Kd.N_drewN | apply Kd.N_drew)); exact HO_4.out) hb); have n1_ := Aside0.mk (Kd.V_lower (Kd.V_mono (ok' := fun k_ => (w.heap.size ≤ k_) ∧ some k_ ≠ (.slice Ao4 x4_1.length co4 : Value).ownBlock) ho0 (fun k_ hk_ => ⟨(Nat.le_trans (below_size (by repeat (first | (with_reducible first | exact HB.out | apply below_alloc | apply pw_below_drewN | apply below_drew1) | exact HB.out))) hk_), (Kd.fresh' (Kd.N_lt (by (with_reducible repeat (first | apply Kd.N_alloc | apply Kd.N_drewN | apply Kd.N_drew)); exact HO_4.out)) k_ hk_)⟩)) (below_size (by repeat (first | (with_reducible first | exact HB.out | apply below_alloc | apply pw_below_drewN | apply below_drew1) | exact HB.out)))); have n2_ := Aside0.mk (below_step (by repeat (first | (with_reducible first | exact HB.out | apply below_alloc | apply pw_below_drewN | apply below_drew1) | exact HB.out)) hb); clear HO_4; clear HB; have HO_4 := n0_; have HO255 := n1_; have HB := n2_; clear n0_ n1_ n2_; (try clear hb); (try clear hb2); (try clear hk); (try clear hi); (try clear ho0)) | ((with_reducible refine gate_dst (N := 6) rfl ?_); refine box_event ?hg (N := 6) ?hd (cs := #[.int .u8 0, .slice none 0 0]) (t := 53) ?hr ?_; (case hd => rfl); (case hg => rfl); (case hr => first | (go_simp; done) | (go_simp; rfl)); intro gb258 hg w20 hbox hb; have n0_ := Aside0.mk (Kd.N_below (Kd.N_elderB (by (with_reducible repeat (first | apply Kd.N_alloc | apply Kd.N_drewN | apply Kd.N_drew)); exact HO_4.out) gb258 (Nat.le_of_eq hg.symm)) hb); have n1_ := Aside0.mk (Kd.V_below (Kd.V_elderB (by (with_reducible repeat (first | apply Kd.V_alloc | apply Kd.V_drewN | apply Kd.V_drew)); exact HO255.out) gb258 (Nat.le_of_eq hg.symm)) hb); have n2_ := Aside0.mk (below_step (by repeat (first | (with_reducible first | exact HB.out | apply below_alloc | apply pw_below_drewN | apply below_drew1) | exact HB.out)) hb); have n3_ := Aside0.mk (hbox); have n4_ := Aside0.mk ((by rw [hg]; exact (below_size (by repeat (first | (with_reducible first | exact HB.out | apply below_alloc | apply pw_below_drewN | apply below_drew1) | exact HB.out))) : w.heap.size ≤ gb258)); have n5_ := Aside0.mk ((by rw [hg]; exact (below_size (by repeat (first | (with_reducible first | exact HB.out | apply below_alloc | apply pw_below_drewN | apply below_drew1) | exact HB.out))) : w.heap.size ≤ gb258)); clear HO_4; clear HO255; clear HB; have HO_4 := n0_; have HO255 := n1_; have HB := n2_; have BK258 := n3_; have GW258 := n4_; have GE258 := n5_; clear n0_ n1_ n2_ n3_ n4_ n5_; clear hb hbox hg; have hcz21_0 : w20.cell? ⟨gb258, 0, none⟩ = some (.int .u8 0) := (blk_cell BK258.out 0).trans rfl; have hcz21_1 : w20.cell? ⟨gb258, 1, none⟩ = some (.slice none 0 0) := (blk_cell BK258.out 1).trans rfl; have hfz21_0 := blk_frozen BK258.out 0; have hfz21_1 := blk_frozen BK258.out 1; obtain ⟨Ao22, co22, eo22⟩ := Kd.V_slice HO255.out; subst eo22))
        go_ret2
        exact ⟨_, by first | rfl | (simp [errW_none, errW_some] <;> rfl) | (simp [*, errW_none, errW_some] <;> rfl), by first | exact Kd.S_nil _ _ _ _ _ | exact Kd.N_nil _ _ _ _ _ | exact Kd.V_nil _ _ _ _ _ | exact Kd.Q_nil _ _ _ _ _ | exact Kd.R_nil _ _ _ _ _, by repeat (first | (with_reducible first | exact HB.out | apply below_alloc | apply pw_below_drewN | apply below_drew1 | refine below_set ?_ GE258.out) | exact HB.out)⟩
   ·rw [if_neg c2] at H
    have c2b0 : decide ((x4_1.length : Int) < 512) = false := decide_eq_false c2
    have c2b1 : decide (x4_1.length < 512) = false := decide_eq_false (by omega)
    clear c2
    simp only [Option.some.injEq, Prod.mk.injEq] at H
    obtain ⟨rfl, rfl⟩ := H
    obtain ⟨Ao23, co23, eo23⟩ := Kd.N_slice HO_4.out
    subst eo23
    go_wp2
    go_ret2
    exact ⟨_, by first | rfl | (simp [errW_none, errW_some] <;> rfl) | (simp [*, errW_none, errW_some] <;> rfl), by (with_reducible repeat (first | apply Kd.N_alloc | apply Kd.N_drewN | apply Kd.N_drew)); exact HO_4.out, by repeat (first | (with_reducible first | exact HB.out | apply below_alloc | apply pw_below_drewN | apply below_drew1) | exact HB.out)⟩

/-! ### kotatsuref05_Kind: function 29 -/
def kotatsuref05_Kind.f (a0 : Int) : Option (Int) := if a0 < 2 then (some ((wrap64 (a0 + 1)) % 256)) else (some ((wrap64 (3 + (Int.tmod a0 2))) % 256))
set_option maxHeartbeats 8000000 in
set_option maxRecDepth 100000 in
theorem kotatsuref05_Kind.calls (a0 : Int) (r : Int) (w : World) (h : kotatsuref05_Kind.f a0 = some r) :
  Calls Try.prog 29 #[.int .i64 a0] w fun e w' => e = .returned (.int .u8 r) ∧ Drawn0 w w' := by
 have H : (if a0 < 2 then (some ((wrap64 (a0 + 1)) % 256)) else (some ((wrap64 (3 + (Int.tmod a0 2))) % 256))) = some r := h
 clear h
 by_cases c2 : a0 < 2
 ·rw [if_pos c2] at H
  have c2b0 : decide (a0 < 2) = true := decide_eq_true c2
  clear c2
  obtain rfl := Option.some.inj H
  go_enter Try.func29, Try.ntmps29
  go_wp2
  go_ret
  exact ⟨by first | rfl | (simp; done) | (simp [*]; done), by repeat (first | exact Drawn0.refl _ | apply Drawn0.step)⟩
 ·rw [if_neg c2] at H
  have c2b0 : decide (a0 < 2) = false := decide_eq_false c2
  clear c2
  obtain rfl := Option.some.inj H
  go_enter Try.func29, Try.ntmps29
  go_wp2
  go_ret
  exact ⟨by first | rfl | (simp; done) | (simp [*]; done), by repeat (first | exact Drawn0.refl _ | apply Drawn0.step)⟩

/-! ### kotatsuref05_Bytes: function 28 -/
def kotatsuref05_Bytes.f (a0 : Int) (l1 : List Int) : Option (Int) := (kotatsuref05_Kind.f a0).bind fun t262 => (if t262 = 1 then (some 55) else (if t262 = 2 then (some 1) else (if t262 = 3 then (some 15) else (if 12 < (l1.length : Int) then (if 13 < (l1.length : Int) then (some (wrap64 ((wrap64 (rd l1 12)) + (wrap64 (256 * (wrap64 (rd l1 13))))))) else (none)) else (none)))))
set_option maxHeartbeats 8000000 in
set_option maxRecDepth 100000 in
theorem kotatsuref05_Bytes.calls (a0 : Int) (A1 : Option Addr) (c1 : Nat) (l1 : List Int) (r : Int) (w : World) (hr1 : Kd.C (Kd.int .u8) w A1 l1.length l1) (hc1 : l1.length ≤ c1) (h : kotatsuref05_Bytes.f a0 l1 = some r) :
  Calls Try.prog 28 #[.int .i64 a0, .slice A1 l1.length c1] w fun e w' => e = .returned (.int .i64 r) ∧ Drawn0 w w' := by
 have HR1 := Aside0.mk hr1
 have HC1 := Aside0.mk hc1
 clear hr1 hc1
 have H : ((kotatsuref05_Kind.f a0).bind fun t262 => (if t262 = 1 then (some 55) else (if t262 = 2 then (some 1) else (if t262 = 3 then (some 15) else (if 12 < (l1.length : Int) then (if 13 < (l1.length : Int) then (some (wrap64 ((wrap64 (rd l1 12)) + (wrap64 (256 * (wrap64 (rd l1 13))))))) else (none)) else (none)))))) = some r := h
 clear h
 replace H := Option.bind_eq_some_iff.mp H
 obtain ⟨t262, A30, H⟩ := H
 replace H : (if t262 = 1 then (some 55) else (if t262 = 2 then (some 1) else (if t262 = 3 then (some 15) else (if 12 < (l1.length : Int) then (if 13 < (l1.length : Int) then (some (wrap64 ((wrap64 (rd l1 12)) + (wrap64 (256 * (wrap64 (rd l1 13))))))) else (none)) else (none))))) = some r := H
 have A3 := Aside0.mk A30
 clear A30
 by_cases c4 : t262 = 1
 ·rw [if_pos c4] at H
  have c4b0 : (t262 == 1) = true := beq_iff_eq.mpr c4
  have c4b1 : (t262 != 1) = false := bne_eq_false_iff_eq.mpr c4
  clear c4
  obtain rfl := Option.some.inj H
  go_enter Try.func28, Try.ntmps28
  go_wp2_with (first | (go_at_call 29; (with_reducible refine (kotatsuref05_Kind.calls a0 t262 _ A3.out).mono ?_); rintro e w' ⟨rfl, ⟨nd, rfl⟩⟩; (try first | exact ⟨rfl, _, World.drewN_drewN _ _ _⟩ | exact ⟨rfl, _, Eq.trans (World.drewN_drewN _ _ _) (congrArg (World.drewN _) (Nat.add_assoc _ _ _))⟩)))
  repeat (go_quiet (first | (go_at_call 29; (with_reducible refine (kotatsuref05_Kind.calls a0 t262 _ A3.out).mono ?_); rintro e w' ⟨rfl, ⟨nd, rfl⟩⟩; (try first | exact ⟨rfl, _, World.drewN_drewN _ _ _⟩ | exact ⟨rfl, _, Eq.trans (World.drewN_drewN _ _ _) (congrArg (World.drewN _) (Nat.add_assoc _ _ _))⟩))); try go_wp2_with (first | (go_at_call 29; (with_reducible refine (kotatsuref05_Kind.calls a0 t262 _ A3.out).mono ?_); rintro e w' ⟨rfl, ⟨nd, rfl⟩⟩; (try first | exact ⟨rfl, _, World.drewN_drewN _ _ _⟩ | exact ⟨rfl, _, Eq.trans (World.drewN_drewN _ _ _) (congrArg (World.drewN _) (Nat.add_assoc _ _ _))⟩))))
  go_ret
  exact ⟨by first | rfl | (simp; done) | (simp [*]; done), by repeat (first | exact Drawn0.refl _ | apply Drawn0.step)⟩
 ·rw [if_neg c4] at H
  have c4b0 : (t262 == 1) = false := beq_eq_false_iff_ne.mpr c4
  have c4b1 : (t262 != 1) = true := bne_iff_ne.mpr c4
  by_cases c5 : t262 = 2
  ·rw [if_pos c5] at H
   have c5b0 : (t262 == 2) = true := beq_iff_eq.mpr c5
   have c5b1 : (t262 != 2) = false := bne_eq_false_iff_eq.mpr c5
   clear c5
   obtain rfl := Option.some.inj H
   go_enter Try.func28, Try.ntmps28
   go_wp2_with (first | (go_at_call 29; (with_reducible refine (kotatsuref05_Kind.calls a0 t262 _ A3.out).mono ?_); rintro e w' ⟨rfl, ⟨nd, rfl⟩⟩; (try first | exact ⟨rfl, _, World.drewN_drewN _ _ _⟩ | exact ⟨rfl, _, Eq.trans (World.drewN_drewN _ _ _) (congrArg (World.drewN _) (Nat.add_assoc _ _ _))⟩)))
   repeat (go_quiet (first | (go_at_call 29; (with_reducible refine (kotatsuref05_Kind.calls a0 t262 _ A3.out).mono ?_); rintro e w' ⟨rfl, ⟨nd, rfl⟩⟩; (try first | exact ⟨rfl, _, World.drewN_drewN _ _ _⟩ | exact ⟨rfl, _, Eq.trans (World.drewN_drewN _ _ _) (congrArg (World.drewN _) (Nat.add_assoc _ _ _))⟩))); try go_wp2_with (first | (go_at_call 29; (with_reducible refine (kotatsuref05_Kind.calls a0 t262 _ A3.out).mono ?_); rintro e w' ⟨rfl, ⟨nd, rfl⟩⟩; (try first | exact ⟨rfl, _, World.drewN_drewN _ _ _⟩ | exact ⟨rfl, _, Eq.trans (World.drewN_drewN _ _ _) (congrArg (World.drewN _) (Nat.add_assoc _ _ _))⟩))))
   go_ret
   exact ⟨by first | rfl | (simp; done) | (simp [*]; done), by repeat (first | exact Drawn0.refl _ | apply Drawn0.step)⟩
  ·rw [if_neg c5] at H
   have c5b0 : (t262 == 2) = false := beq_eq_false_iff_ne.mpr c5
   have c5b1 : (t262 != 2) = true := bne_iff_ne.mpr c5
   by_cases c6 : t262 = 3
   ·rw [if_pos c6] at H
    have c6b0 : (t262 == 3) = true := beq_iff_eq.mpr c6
    have c6b1 : (t262 != 3) = false := bne_eq_false_iff_eq.mpr c6
    clear c6
    obtain rfl := Option.some.inj H
    go_enter Try.func28, Try.ntmps28
    go_wp2_with (first | (go_at_call 29; (with_reducible refine (kotatsuref05_Kind.calls a0 t262 _ A3.out).mono ?_); rintro e w' ⟨rfl, ⟨nd, rfl⟩⟩; (try first | exact ⟨rfl, _, World.drewN_drewN _ _ _⟩ | exact ⟨rfl, _, Eq.trans (World.drewN_drewN _ _ _) (congrArg (World.drewN _) (Nat.add_assoc _ _ _))⟩)))
    repeat (go_quiet (first | (go_at_call 29; (with_reducible refine (kotatsuref05_Kind.calls a0 t262 _ A3.out).mono ?_); rintro e w' ⟨rfl, ⟨nd, rfl⟩⟩; (try first | exact ⟨rfl, _, World.drewN_drewN _ _ _⟩ | exact ⟨rfl, _, Eq.trans (World.drewN_drewN _ _ _) (congrArg (World.drewN _) (Nat.add_assoc _ _ _))⟩))); try go_wp2_with (first | (go_at_call 29; (with_reducible refine (kotatsuref05_Kind.calls a0 t262 _ A3.out).mono ?_); rintro e w' ⟨rfl, ⟨nd, rfl⟩⟩; (try first | exact ⟨rfl, _, World.drewN_drewN _ _ _⟩ | exact ⟨rfl, _, Eq.trans (World.drewN_drewN _ _ _) (congrArg (World.drewN _) (Nat.add_assoc _ _ _))⟩))))
    go_ret
    exact ⟨by first | rfl | (simp; done) | (simp [*]; done), by repeat (first | exact Drawn0.refl _ | apply Drawn0.step)⟩
   ·rw [if_neg c6] at H
    have c6b0 : (t262 == 3) = false := beq_eq_false_iff_ne.mpr c6
    have c6b1 : (t262 != 3) = true := bne_iff_ne.mpr c6
    by_cases c7 : 12 < (l1.length : Int)
    ·rw [if_pos c7] at H
     have c7b0 : decide (12 < (l1.length : Int)) = true := decide_eq_true c7
     have c7b1 : decide (12 < l1.length) = true := decide_eq_true (by omega)
     clear c7
     by_cases c8 : 13 < (l1.length : Int)
     ·rw [if_pos c8] at H
      have c8b0 : decide (13 < (l1.length : Int)) = true := decide_eq_true c8
      have c8b1 : decide (13 < l1.length) = true := decide_eq_true (by omega)
      clear c8
      obtain rfl := Option.some.inj H
      go_enter Try.func28, Try.ntmps28
      go_wp2_with (first | (go_at_call 29; (with_reducible refine (kotatsuref05_Kind.calls a0 t262 _ A3.out).mono ?_); rintro e w' ⟨rfl, ⟨nd, rfl⟩⟩; (try first | exact ⟨rfl, _, World.drewN_drewN _ _ _⟩ | exact ⟨rfl, _, Eq.trans (World.drewN_drewN _ _ _) (congrArg (World.drewN _) (Nat.add_assoc _ _ _))⟩); have p263 : 0 ≤ (12 : Int) := (by omega); have q263 : 12 < (l1.length : Int) := of_decide_eq_true (by first | (with_reducible assumption) | assumption); obtain ⟨ad263, e263, hx263_0⟩ := Kd.at_int HR1.out 12 p263 q263; cases e263; (try simp only [show (12 : Int).toNat = 12 from rfl, Nat.reduceMul, Nat.reduceEqDiff, Go.Addr.add, ↓reduceIte] at hx263_0); have qi263 : (12 < l1.length) = True := eq_true (by omega); (try rw [show ((12 : Int)).toNat = 12 from rfl] at hx263_0); replace p263 := eq_true p263; replace q263 := eq_true q263; have p264 : 0 ≤ (13 : Int) := (by omega); have q264 : 13 < (l1.length : Int) := of_decide_eq_true (by first | (with_reducible assumption) | assumption); obtain ⟨ad264, e264, hx264_0⟩ := Kd.at_int HR1.out 13 p264 q264; obtain rfl : ad263 = ad264 := (by injection e264); (try simp only [show (13 : Int).toNat = 13 from rfl, Nat.reduceMul, Nat.reduceEqDiff, Go.Addr.add, ↓reduceIte] at hx264_0); have qi264 : (13 < l1.length) = True := eq_true (by omega); (try rw [show ((13 : Int)).toNat = 13 from rfl] at hx264_0); replace p264 := eq_true p264; replace q264 := eq_true q264))
      repeat (go_quiet (first | (go_at_call 29; (with_reducible refine (kotatsuref05_Kind.calls a0 t262 _ A3.out).mono ?_); rintro e w' ⟨rfl, ⟨nd, rfl⟩⟩; (try first | exact ⟨rfl, _, World.drewN_drewN _ _ _⟩ | exact ⟨rfl, _, Eq.trans (World.drewN_drewN _ _ _) (congrArg (World.drewN _) (Nat.add_assoc _ _ _))⟩); have p263 : 0 ≤ (12 : Int) := (by omega); have q263 : 12 < (l1.length : Int) := of_decide_eq_true (by first | (with_reducible assumption) | assumption); obtain ⟨ad263, e263, hx263_0⟩ := Kd.at_int HR1.out 12 p263 q263; cases e263; (try simp only [show (12 : Int).toNat = 12 from rfl, Nat.reduceMul, Nat.reduceEqDiff, Go.Addr.add, ↓reduceIte] at hx263_0); have qi263 : (12 < l1.length) = True := eq_true (by omega); (try rw [show ((12 : Int)).toNat = 12 from rfl] at hx263_0); replace p263 := eq_true p263; replace q263 := eq_true q263; have p264 : 0 ≤ (13 : Int) := (by omega); have q264 : 13 < (l1.length : Int) := of_decide_eq_true (by first | (with_reducible assumption) | assumption); obtain ⟨ad264, e264, hx264_0⟩ := Kd.at_int HR1.out 13 p264 q264; obtain rfl : ad263 = ad264 := (by injection e264); (try simp only [show (13 : Int).toNat = 13 from rfl, Nat.reduceMul, Nat.reduceEqDiff, Go.Addr.add, ↓reduceIte] at hx264_0); have qi264 : (13 < l1.length) = True := eq_true (by omega); (try rw [show ((13 : Int)).toNat = 13 from rfl] at hx264_0); replace p264 := eq_true p264; replace q264 := eq_true q264)); try go_wp2_with (first | (go_at_call 29; (with_reducible refine (kotatsuref05_Kind.calls a0 t262 _ A3.out).mono ?_); rintro e w' ⟨rfl, ⟨nd, rfl⟩⟩; (try first | exact ⟨rfl, _, World.drewN_drewN _ _ _⟩ | exact ⟨rfl, _, Eq.trans (World.drewN_drewN _ _ _) (congrArg (World.drewN _) (Nat.add_assoc _ _ _))⟩); have p263 : 0 ≤ (12 : Int) := (by omega); have q263 : 12 < (l1.length : Int) := of_decide_eq_true (by first | (with_reducible assumption) | assumption); obtain ⟨ad263, e263, hx263_0⟩ := Kd.at_int HR1.out 12 p263 q263; cases e263; (try simp only [show (12 : Int).toNat = 12 from rfl, Nat.reduceMul, Nat.reduceEqDiff, Go.Addr.add, ↓reduceIte] at hx263_0); have qi263 : (12 < l1.length) = True := eq_true (by omega); (try rw [show ((12 : Int)).toNat = 12 from rfl] at hx263_0); replace p263 := eq_true p263; replace q263 := eq_true q263; have p264 : 0 ≤ (13 : Int) := (by omega); have q264 : 13 < (l1.length : Int) := of_decide_eq_true (by first | (with_reducible assumption) | assumption); obtain ⟨ad264, e264, hx264_0⟩ := Kd.at_int HR1.out 13 p264 q264; obtain rfl : ad263 = ad264 := (by injection e264); (try simp only [show (13 : Int).toNat = 13 from rfl, Nat.reduceMul, Nat.reduceEqDiff, Go.Addr.add, ↓reduceIte] at hx264_0); have qi264 : (13 < l1.length) = True := eq_true (by omega); (try rw [show ((13 : Int)).toNat = 13 from rfl] at hx264_0); replace p264 := eq_true p264; replace q264 := eq_true q264)))
      go_ret
      exact ⟨by first | rfl | (simp; done) | (simp [*]; done), by repeat (first | exact Drawn0.refl _ | apply Drawn0.step)⟩
     ·rw [if_neg c8] at H
      exact absurd H (by simp)
    ·rw [if_neg c7] at H
     exact absurd H (by simp)

/-! ### kotatsuref02_Take: function 30 -/
def kotatsuref02_Take.l0 : Nat → List Int → Int → Int → Option (Int)
 | 0, _, _, _ => none
 | k + 1, x0, x3, x4 => if x4 > 0 then (if 0 ≤ (wrap64 (x4 - 1)) then (if (wrap64 (x4 - 1)) < (x0.length : Int) then (kotatsuref02_Take.l0 k x0 (IntKind.u64.wrap ((IntKind.u64.wrap (256 * x3)) + (IntKind.u64.wrap (rd x0 (wrap64 (x4 - 1)))))) (wrap64 (x4 - 1))) else (none)) else (none)) else (some x3)
def kotatsuref02_Take.f (k : Nat) (l0 : List Int) : Option (Int) := kotatsuref02_Take.l0 k l0 0 (l0.length : Int)
set_option maxHeartbeats 8000000 in
set_option maxRecDepth 100000 in
theorem kotatsuref02_Take.calls (k : Nat) (A0 : Option Addr) (c0 : Nat) (l0 : List Int) (r : Int) (w : World) (hr0 : Kd.C (Kd.int .u8) w A0 l0.length l0) (hc0 : l0.length ≤ c0) (h : kotatsuref02_Take.f k l0 = some r) :
  Calls Try.prog 30 #[.slice A0 l0.length c0] w fun e w' => e = .returned (.int .u64 r) ∧ Drawn0 w w' := by
 have HR0 := Aside0.mk hr0
 have HC0 := Aside0.mk hc0
 clear hr0 hc0
 have H : (kotatsuref02_Take.l0 k l0 0 (l0.length : Int)) = some r := h
 clear h
 have H' := Aside0.mk H
 clear H
 go_enter Try.func30, Try.ntmps30
 go_wp2
 go_loopg [3, 4] k (fun kq v3 v4 w' => ∃ (x3_1 : Int) (x4_1 : Int), v3 = .int .u64 x3_1 ∧ v4 = .int .i64 x4_1 ∧ Aside0 (kotatsuref02_Take.l0 kq l0 x3_1 x4_1 = some r) ∧ Aside0 (kq ≤ k) ∧ Drawn0 w w')
 case atStart => exact ⟨(0), ((l0.length : Int)), (by first | rfl | (simp; done) | (simp [*]; done)), (by first | rfl | (simp; done) | (simp [*]; done)), H', ⟨Nat.le_refl _⟩, by repeat (first | exact Drawn0.refl _ | apply Drawn0.step)⟩
 case round =>
  clear H'
  obtain ⟨x3_1, x4_1, rfl, rfl, HA, HK1, ⟨m1, rfl⟩⟩ := hrel
  cases gk with
  | zero => exact absurd HA.out (by simp [kotatsuref02_Take.l0])
  | succ k1 =>
   have H := HA.out
   clear HA
   simp only [kotatsuref02_Take.l0] at H
   by_cases c2 : x4_1 > 0
   ·rw [if_pos c2] at H
    have c2b0 : decide (0 < x4_1) = true := decide_eq_true c2
    clear c2
    obtain ⟨ji3, hji3⟩ : ∃ j_ : Int, (wrap64 (x4_1 - 1)) = j_ := ⟨_, rfl⟩
    replace H : (if 0 ≤ (ji3) then (if (ji3) < (l0.length : Int) then (kotatsuref02_Take.l0 k1 l0 (IntKind.u64.wrap ((IntKind.u64.wrap (256 * x3_1)) + (IntKind.u64.wrap (rd l0 (ji3))))) ji3) else (none)) else (none)) = some r := by first | (rw [hji3] at H; exact H) | (simp only [hji3] at H ⊢; exact H)
    have hji3w : (IntKind.i64.wrap (x4_1 - 1)) = ji3 := (i64_w _).trans hji3
    by_cases c4 : 0 ≤ (ji3)
    ·rw [if_pos c4] at H
     have c4b0 : decide (0 ≤ (ji3)) = true := decide_eq_true c4
     clear c4
     by_cases c5 : (ji3) < (l0.length : Int)
     ·rw [if_pos c5] at H
      have c5b0 : decide ((ji3) < (l0.length : Int)) = true := decide_eq_true c5
      clear c5
      have H' := Aside0.mk H
      clear H
      have p265 : 0 ≤ ((ji3) : Int) := of_decide_eq_true (by first | (with_reducible assumption) | assumption)
      have q265 : (ji3) < (l0.length : Int) := of_decide_eq_true (by first | (with_reducible assumption) | assumption)
      obtain ⟨ad265, e265, hx265_0⟩ := Kd.at_int HR0.out (ji3) p265 q265
      cases e265
      replace p265 := eq_true p265
      replace q265 := eq_true q265
      go_wp2
      go_roundg k1
      case measure => have := HK1.out; omega
      case rel => exact ⟨(IntKind.u64.wrap ((IntKind.u64.wrap (256 * x3_1)) + (IntKind.u64.wrap (rd l0 (ji3))))), (ji3), (by first | rfl | (simp; done) | (simp only [← hji3] <;> (first | rfl | simp)) | (simp [*]; done)), (by first | rfl | (simp; done) | (simp only [← hji3] <;> (first | rfl | simp)) | (simp [*]; done)), H', ⟨by have := HK1.out; omega⟩, by repeat (first | exact Drawn0.refl _ | apply Drawn0.step)⟩
     ·rw [if_neg c5] at H
      exact absurd H (by simp)
    ·rw [if_neg c4] at H
     exact absurd H (by simp)
   ·rw [if_neg c2] at H
    have c2b0 : decide (0 < x4_1) = false := decide_eq_false c2
    clear c2
    obtain rfl := Option.some.inj H
    go_wp2
    go_ret
    exact ⟨by first | rfl | (simp; done) | (simp [*]; done), by repeat (first | exact Drawn0.refl _ | apply Drawn0.step)⟩

end Go.Proofs.Ytgahcipgglkkhaa.PGrooveReads
