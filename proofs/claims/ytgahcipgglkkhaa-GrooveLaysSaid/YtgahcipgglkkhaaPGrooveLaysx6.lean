-- made by a program of this repo (wip/patch_print.py); not trusted: Lean checks it
import Derived.Test.YtgahcipgglkkhaaPGrooveLaysx0
import Derived.Test.YtgahcipgglkkhaaPGrooveLaysx5
namespace Go.Proofs.Ytgahcipgglkkhaa.PGrooveLays
open Go.RowKit Go.Proofs.YtgahcipgglkkhaaW.PrintWords Go.Proofs.YtgahcipgglkkhaaW.PrintLast Go.Proofs.YtgahcipgglkkhaaW.PrintMore
attribute [local go_sem] max2_int min2_int max_two min_two max_three min_three max_four min_four   -- for this text's walks alone
set_option linter.unusedVariables false
set_option linter.unusedSimpArgs false

/-! ### groove_Read: function 15 -/
mutual
def groove_Read.l0 : Nat → List Int → List (S53) → Int → Option ((List (S53)) × Int)
  | 0, _, _, _ => none
  | k + 1, x0, x4, x5 => if (x4.length : Int) < 512 then (groove_Read.l1 k x0 x4 x5) else (some (x4, 0))
def groove_Read.j2 : Nat → List Int → List (S53) → Int → Option ((List (S53)) × Int)
  | 0, _, _, _ => none
  | k + 1, x0, x4, x5 => if x5 = (x0.length : Int) then (some (x4, 0)) else ((groove_one.f k x0 x5 x4).bind fun bt254 => (if bt254.2.2.2 = 0 then (if x4.length < 4398046511104 then (groove_Read.l0 k x0 (x4 ++ [(⟨bt254.1, bt254.2.1⟩ : S53)]) bt254.2.2.1) else (none)) else (some (([] : List (S53)), bt254.2.2.2))))
def groove_Read.l1 : Nat → List Int → List (S53) → Int → Option ((List (S53)) × Int)
  | 0, _, _, _ => none
  | k + 1, x0, x4, x5 => if x5 < (x0.length : Int) then (if 0 ≤ x5 then (if (rd x0 x5) = 0 then (groove_Read.l1 k x0 x4 (wrap64 (x5 + 1))) else (groove_Read.j2 k x0 x4 x5)) else (none)) else (groove_Read.j2 k x0 x4 x5)
end
def groove_Read.f (k : Nat) (l0 : List Int) : Option ((List (S53)) × Int) := groove_Read.l0 k l0 ([] : List (S53)) 0
set_option maxRecDepth 100000 in
theorem groove_Read.mono_l : ∀ k, (∀ y0 y1 y2, LeO (groove_Read.l0 k y0 y1 y2) (groove_Read.l0 (k + 1) y0 y1 y2)) ∧ (∀ y0 y1 y2, LeO (groove_Read.j2 k y0 y1 y2) (groove_Read.j2 (k + 1) y0 y1 y2)) ∧ (∀ y0 y1 y2, LeO (groove_Read.l1 k y0 y1 y2) (groove_Read.l1 (k + 1) y0 y1 y2))
  | 0 => ⟨fun _ _ _ r h => (by have h2_ : (none : Option _) = some r := h; cases h2_), fun _ _ _ r h => (by have h2_ : (none : Option _) = some r := h; cases h2_), fun _ _ _ r h => (by have h2_ : (none : Option _) = some r := h; cases h2_)⟩
  | k + 1 => by
    obtain ⟨ih0, ih1, ih2⟩ := groove_Read.mono_l k
    refine ⟨?_, ?_, ?_⟩
    · intro y0 y1 y2
      unfold groove_Read.l0
      repeat' first
      | (with_reducible exact ih0 _ _ _)
      | (with_reducible exact ih1 _ _ _)
      | (with_reducible exact ih2 _ _ _)
      | (with_reducible exact groove_one.mono _ _ _ _)
      | (with_reducible exact LeO.refl _)
      | (with_reducible exact LeO.none _)
      | (with_reducible refine LeO.ite ?_ ?_)
      | (with_reducible refine LeO.bind ?_ (fun _ => ?_))
      | exact ih0 _ _ _
      | exact ih1 _ _ _
      | exact ih2 _ _ _
      | exact groove_one.mono _ _ _ _
      | exact LeO.none _
      | refine LeO.ite ?_ ?_
      | refine LeO.bind ?_ (fun _ => ?_)
    · intro y0 y1 y2
      unfold groove_Read.j2
      repeat' first
      | (with_reducible exact ih0 _ _ _)
      | (with_reducible exact ih1 _ _ _)
      | (with_reducible exact ih2 _ _ _)
      | (with_reducible exact groove_one.mono _ _ _ _)
      | (with_reducible exact LeO.refl _)
      | (with_reducible exact LeO.none _)
      | (with_reducible refine LeO.ite ?_ ?_)
      | (with_reducible refine LeO.bind ?_ (fun _ => ?_))
      | exact ih0 _ _ _
      | exact ih1 _ _ _
      | exact ih2 _ _ _
      | exact groove_one.mono _ _ _ _
      | exact LeO.none _
      | refine LeO.ite ?_ ?_
      | refine LeO.bind ?_ (fun _ => ?_)
    · intro y0 y1 y2
      unfold groove_Read.l1
      repeat' first
      | (with_reducible exact ih0 _ _ _)
      | (with_reducible exact ih1 _ _ _)
      | (with_reducible exact ih2 _ _ _)
      | (with_reducible exact groove_one.mono _ _ _ _)
      | (with_reducible exact LeO.refl _)
      | (with_reducible exact LeO.none _)
      | (with_reducible refine LeO.ite ?_ ?_)
      | (with_reducible refine LeO.bind ?_ (fun _ => ?_))
      | exact ih0 _ _ _
      | exact ih1 _ _ _
      | exact ih2 _ _ _
      | exact groove_one.mono _ _ _ _
      | exact LeO.none _
      | refine LeO.ite ?_ ?_
      | refine LeO.bind ?_ (fun _ => ?_)
set_option maxRecDepth 100000 in
theorem groove_Read.mono : ∀ a0 k, LeO (groove_Read.f k a0) (groove_Read.f (k + 1) a0) := by
  intro a0 k
  obtain ⟨ih0, ih1, ih2⟩ := groove_Read.mono_l k
  unfold groove_Read.f
  repeat' first
      | (with_reducible exact ih0 _ _ _)
      | (with_reducible exact ih1 _ _ _)
      | (with_reducible exact ih2 _ _ _)
      | (with_reducible exact groove_one.mono _ _ _ _)
      | (with_reducible exact LeO.refl _)
      | (with_reducible exact LeO.none _)
      | (with_reducible refine LeO.ite ?_ ?_)
      | (with_reducible refine LeO.bind ?_ (fun _ => ?_))
      | exact ih0 _ _ _
      | exact ih1 _ _ _
      | exact ih2 _ _ _
      | exact groove_one.mono _ _ _ _
      | exact LeO.none _
      | refine LeO.ite ?_ ?_
      | refine LeO.bind ?_ (fun _ => ?_)
set_option maxHeartbeats 8000000 in
set_option maxRecDepth 100000 in
theorem groove_Read.calls (k : Nat) (A0 : Option Addr) (c0 : Nat) (l0 : List Int) (r1 : List (S53)) (r2 : Int) (w : World) (hr0 : Kd.C (Kd.int .u8) w A0 l0.length l0) (hc0 : l0.length ≤ c0) (h : groove_Read.f k l0 = some (r1, r2)) :
    Calls Try.prog 15 #[.slice A0 l0.length c0] w fun e w' => ∃ v0_ : Value, e = .returned (.tuple #[v0_, .int .i64 r2]) ∧ Kd.N k53 53 w' w.heap.size (fun k_ => (w.heap.size ≤ k_)) v0_ r1 ∧ Below w.heap.size w w' := by
  have hu53 := Try.underlying53
  have HR0 := Aside0.mk hr0
  have HC0 := Aside0.mk hc0
  clear hr0 hc0
  have HB := Aside0.mk (Below.refl w.heap.size w)
  have H : (groove_Read.l0 k l0 ([] : List (S53)) 0) = some (r1, r2) := h
  clear h
  have H' := Aside0.mk H
  clear H
  go_enter Try.func15, Try.ntmps15
  go_wp2
  go_loopg [4, 5] k (fun kq v4 v5 w' => ∃ (x4_1 : List (S53)) (x5_1 : Int), v5 = .int .i64 x5_1 ∧ Aside0 (groove_Read.l0 kq l0 x4_1 x5_1 = some (r1, r2)) ∧ Aside0 (kq ≤ k) ∧ Aside0 (Kd.N k53 53 w' w.heap.size (fun k_ => (w.heap.size ≤ k_)) v4 x4_1) ∧ Aside0 (Below w.heap.size w w'))
  case atStart => exact ⟨(([] : List (S53))), (0), (by first | rfl | (simp; done) | (simp [*]; done)), H', ⟨Nat.le_refl _⟩, ⟨by first | exact Kd.S_nil _ _ _ _ _ | exact Kd.N_nil _ _ _ _ _ | exact Kd.V_nil _ _ _ _ _ | exact Kd.Q_nil _ _ _ _ _ | exact Kd.R_nil _ _ _ _ _⟩, ⟨by repeat (first | (with_reducible first | exact HB.out | apply below_alloc | apply pw_below_drewN | apply below_drew1) | exact HB.out)⟩⟩
  case round =>
    clear H'
    try clear c1
    obtain ⟨x4_1, x5_1, rfl, HA, HK1, HO_4, HB⟩ := hrel
    cases gk with
    | zero => exact absurd HA.out (fun hq_ => by have h2_ : (none : Option _) = some _ := hq_; cases h2_)
    | succ k1 =>
      have H := HA.out
      clear HA
      unfold groove_Read.l0 at H
      by_cases c2 : (x4_1.length : Int) < 512
      · rw [if_pos c2] at H
        have c2b0 : decide ((x4_1.length : Int) < 512) = true := decide_eq_true c2
        have c2b1 : decide (x4_1.length < 512) = true := decide_eq_true (by omega)
        clear c2
        have HC3 := Aside0.mk H
        clear H
        obtain ⟨Ao4, co4, eo4⟩ := Kd.N_slice HO_4.out
        subst eo4
        go_upto_block 2 with (fail)
        go_cut [5] (fun v5 wc => ∃ (kq : Nat) (x5_2 : Int), v5 = .int .i64 x5_2 ∧ Aside0 (groove_Read.j2 kq l0 x4_1 x5_2 = some (r1, r2)) ∧ Aside0 (kq ≤ k1) ∧ Aside0 (Kd.N k53 53 wc w.heap.size (fun k_ => (w.heap.size ≤ k_)) (.slice Ao4 x4_1.length co4) x4_1) ∧ Aside0 (Below w.heap.size w wc))
        case first =>
          have H := HC3.out
          clear HC3
          have H' := Aside0.mk H
          clear H
          go_wp2
          go_loopg [5] k1 (fun kq v5 w' => ∃ (x5_2 : Int), v5 = .int .i64 x5_2 ∧ Aside0 (groove_Read.l1 kq l0 x4_1 x5_2 = some (r1, r2)) ∧ Aside0 (kq ≤ k1) ∧ Aside0 (Kd.N k53 53 w' w.heap.size (fun k_ => (w.heap.size ≤ k_)) (.slice Ao4 x4_1.length co4) x4_1) ∧ Aside0 (Below w.heap.size w w'))
          case atStart => exact ⟨(x5_1), (by first | rfl | (simp; done) | (simp [*]; done)), H', ⟨Nat.le_refl _⟩, ⟨by (with_reducible repeat (first | apply Kd.N_alloc | apply Kd.N_drewN | apply Kd.N_drew)); exact HO_4.out⟩, ⟨by repeat (first | (with_reducible first | exact HB.out | apply below_alloc | apply pw_below_drewN | apply below_drew1) | exact HB.out)⟩⟩
          case round =>
            clear H'
            try clear c1
            try clear c2
            try clear c2b0
            try clear c2b1
            try clear p2
            obtain ⟨x5_2, rfl, HA, HK2, HO_4, HB⟩ := hrel
            cases gk with
            | zero => exact absurd HA.out (fun hq_ => by have h2_ : (none : Option _) = some _ := hq_; cases h2_)
            | succ k2 =>
              have H := HA.out
              clear HA
              unfold groove_Read.l1 at H
              by_cases c5 : x5_2 < (l0.length : Int)
              · rw [if_pos c5] at H
                have c5b0 : decide (x5_2 < (l0.length : Int)) = true := decide_eq_true c5
                clear c5
                (first | rw [c5b0] | (simp only [i64_w, i32_w]; rw [c5b0]) | skip)
                by_cases c6 : 0 ≤ x5_2
                · rw [if_pos c6] at H
                  have c6b0 : decide (0 ≤ x5_2) = true := decide_eq_true c6
                  clear c6
                  by_cases c7 : (rd l0 x5_2) = 0
                  · rw [if_pos c7] at H
                    have c7b0 : ((rd l0 x5_2) == 0) = true := beq_iff_eq.mpr c7
                    have c7b1 : ((rd l0 x5_2) != 0) = false := bne_eq_false_iff_eq.mpr c7
                    clear c7
                    have H' := Aside0.mk H
                    clear H
                    have p253 : 0 ≤ (x5_2 : Int) := of_decide_eq_true (by first | (with_reducible assumption) | assumption)
                    have q253 : x5_2 < (l0.length : Int) := of_decide_eq_true (by first | (with_reducible assumption) | assumption)
                    obtain ⟨ad253, e253, hx253_0⟩ := Kd.at_int HR0.out x5_2 p253 q253
                    cases e253
                    replace hx253_0 := (HB.out.cell (World.block_lt_of_cell? w _ hx253_0)).trans hx253_0
                    replace p253 := eq_true p253
                    replace q253 := eq_true q253
                    go_wp2
                    go_roundg k2
                    case measure => have := HK1.out; have := HK2.out; omega
                    case rel => exact ⟨(wrap64 (x5_2 + 1)), (by first | rfl | (simp; done) | (simp [*]; done)), H', ⟨by have := HK1.out; have := HK2.out; omega⟩, ⟨by (with_reducible repeat (first | apply Kd.N_alloc | apply Kd.N_drewN | apply Kd.N_drew)); exact HO_4.out⟩, ⟨by repeat (first | (with_reducible first | exact HB.out | apply below_alloc | apply pw_below_drewN | apply below_drew1) | exact HB.out)⟩⟩
                  · rw [if_neg c7] at H
                    have c7b0 : ((rd l0 x5_2) == 0) = false := beq_eq_false_iff_ne.mpr c7
                    have c7b1 : ((rd l0 x5_2) != 0) = true := bne_iff_ne.mpr c7
                    have H' := Aside0.mk H
                    clear H
                    have p253 : 0 ≤ (x5_2 : Int) := of_decide_eq_true (by first | (with_reducible assumption) | assumption)
                    have q253 : x5_2 < (l0.length : Int) := of_decide_eq_true (by first | (with_reducible assumption) | assumption)
                    obtain ⟨ad253, e253, hx253_0⟩ := Kd.at_int HR0.out x5_2 p253 q253
                    cases e253
                    replace hx253_0 := (HB.out.cell (World.block_lt_of_cell? w _ hx253_0)).trans hx253_0
                    replace p253 := eq_true p253
                    replace q253 := eq_true q253
                    go_wp2
                    go_meet
                    case rel => exact ⟨_, (x5_2), (by first | rfl | (simp; done) | (simp [*]; done)), H', ⟨by have := HK1.out; have := HK2.out; first | omega | exact Nat.le_refl _⟩, ⟨by (with_reducible repeat (first | apply Kd.N_alloc | apply Kd.N_drewN | apply Kd.N_drew)); exact HO_4.out⟩, ⟨by repeat (first | (with_reducible first | exact HB.out | apply below_alloc | apply pw_below_drewN | apply below_drew1) | exact HB.out)⟩⟩
                · rw [if_neg c6] at H
                  exact absurd H (by simp)
              · rw [if_neg c5] at H
                have c5b0 : decide (x5_2 < (l0.length : Int)) = false := decide_eq_false c5
                clear c5
                (first | rw [c5b0] | (simp only [i64_w, i32_w]; rw [c5b0]) | skip)
                have H' := Aside0.mk H
                clear H
                go_wp2
                go_meet
                case rel => exact ⟨_, (x5_2), (by first | rfl | (simp; done) | (simp [*]; done)), H', ⟨by have := HK1.out; have := HK2.out; first | omega | exact Nat.le_refl _⟩, ⟨by (with_reducible repeat (first | apply Kd.N_alloc | apply Kd.N_drewN | apply Kd.N_drew)); exact HO_4.out⟩, ⟨by repeat (first | (with_reducible first | exact HB.out | apply below_alloc | apply pw_below_drewN | apply below_drew1) | exact HB.out)⟩⟩
        case rest =>
          clear HC3
          try clear c1
          try clear c2
          try clear c2b0
          try clear c2b1
          try clear p2
          try clear q2
          try clear hx2
          try clear c5
          try clear c5b0
          try clear c6
          try clear c6b0
          try clear p6
          try clear c7
          try clear c7b0
          try clear c7b1
          try clear hx253_0
          try clear p2
          try clear p253
          try clear q253
          obtain ⟨kq, x5_2, rfl, HA, HJ2, HO_4, HB⟩ := hcut
          cases kq with
          | zero => exact absurd HA.out (fun hq_ => by have h2_ : (none : Option _) = some _ := hq_; cases h2_)
          | succ kj2 =>
            have H := HA.out
            clear HA
            unfold groove_Read.j2 at H
            by_cases c8 : x5_2 = (l0.length : Int)
            · rw [if_pos c8] at H
              have c8b0 : (x5_2 == (l0.length : Int)) = true := beq_iff_eq.mpr c8
              have c8b1 : (x5_2 != (l0.length : Int)) = false := bne_eq_false_iff_eq.mpr c8
              clear c8
              simp only [Option.some.injEq, Prod.mk.injEq] at H
              obtain ⟨rfl, rfl⟩ := H
              go_wp2
              go_ret2
              exact ⟨_, by first | rfl | (simp [errW_none, errW_some] <;> rfl) | (simp [*, errW_none, errW_some] <;> rfl), by (with_reducible repeat (first | apply Kd.N_alloc | apply Kd.N_drewN | apply Kd.N_drew)); exact HO_4.out, by repeat (first | (with_reducible first | exact HB.out | apply below_alloc | apply pw_below_drewN | apply below_drew1) | exact HB.out)⟩
            · rw [if_neg c8] at H
              have c8b0 : (x5_2 == (l0.length : Int)) = false := beq_eq_false_iff_ne.mpr c8
              have c8b1 : (x5_2 != (l0.length : Int)) = true := bne_iff_ne.mpr c8
              replace H := Option.bind_eq_some_iff.mp H
              obtain ⟨⟨t254, t255, t258, t259⟩, A90, H⟩ := H
              replace H : (if t259 = 0 then (if x4_1.length < 4398046511104 then (groove_Read.l0 kj2 l0 (x4_1 ++ [(⟨t254, t255⟩ : S53)]) t258) else (none)) else (some (([] : List (S53)), t259))) = some (r1, r2) := H
              have A9 := Aside0.mk A90
              clear A90
              by_cases c10 : t259 = 0
              · rw [if_pos c10] at H
                have c10b0 : (t259 == 0) = true := beq_iff_eq.mpr c10
                have c10b1 : (t259 != 0) = false := bne_eq_false_iff_eq.mpr c10
                clear c10
                by_cases c11 : x4_1.length < 4398046511104
                · rw [if_pos c11] at H
                  have LMc11 := Aside0.mk c11
                  clear c11
                  obtain ⟨y261, hy261⟩ : ∃ y_ : List (S53), y_ = (x4_1 ++ [(⟨t254, t255⟩ : S53)]) := ⟨_, rfl⟩
                  replace H : (groove_Read.l0 kj2 l0 y261 t258) = some (r1, r2) := by first | (rw [hy261]; with_reducible exact H) | (have H2_ := (Option.bind_some _ _).symm.trans H; rw [hy261]; with_reducible exact H2_) | (have H2_ := (Option.bind_some _ _).symm.trans H; with_reducible exact H2_) | with_reducible exact H | (rw [hy261]; exact H) | exact H
                  have Ny261 := Aside0.mk hy261
                  clear hy261
                  have H' := Aside0.mk H
                  clear H
                  go_wp2_with (first | ((with_reducible refine gate_callee (f := 27) rfl ?_); refine goesL_ (some 33) rfl rfl Try.func27 (by kernel_rfl) rfl #[.slice A0 l0.length c0, .int .i64 x5_2, .slice Ao4 x4_1.length co4] rfl (by (try simp only [List.map_toArray, List.map_cons, List.map_nil]); first | done | rfl | (simp only [List.length_drop, List.length_take]; rfl)) ?_; (with_reducible refine (groove_one.calls kj2 _ _ l0 x5_2 _ _ x4_1 t254 t255 t258 t259 _ ?side1 ?side2 ?side3 ?side4 A9.out).mono ?_); (case side1 => repeat (first | exact (Kd.C_below HR0.out HB.out) | (with_reducible refine Kd.C_alloc ?_ _) | (with_reducible refine Kd.C_drewN ?_ _) | (with_reducible refine Kd.C_drew ?_))); (case side2 => exact HC0.out); (case side3 => repeat (first | exact (Kd.N_reads' HO_4.out).2.2 | (with_reducible refine Kd.C_alloc ?_ _) | (with_reducible refine Kd.C_drewN ?_ _) | (with_reducible refine Kd.C_drew ?_))); (case side4 => exact (Kd.N_reads' HO_4.out).2.1); rintro e w12 ⟨v256, rfl, ho0, hb⟩; refine ⟨_, rfl, ?_⟩; have n0_ := Aside0.mk (Kd.N_below (by (with_reducible repeat (first | apply Kd.N_alloc | apply Kd.N_drewN | apply Kd.N_drew)); exact HO_4.out) hb); have n1_ := Aside0.mk (Kd.V_lower (Kd.V_mono (ok' := fun k_ => (w.heap.size ≤ k_) ∧ some k_ ≠ (.slice Ao4 x4_1.length co4 : Value).ownBlock) ho0 (fun k_ hk_ => ⟨(Nat.le_trans (below_size (by repeat (first | (with_reducible first | exact HB.out | apply below_alloc | apply pw_below_drewN | apply below_drew1) | exact HB.out))) hk_), (Kd.fresh' (Kd.N_lt (by (with_reducible repeat (first | apply Kd.N_alloc | apply Kd.N_drewN | apply Kd.N_drew)); exact HO_4.out)) k_ hk_)⟩)) (below_size (by repeat (first | (with_reducible first | exact HB.out | apply below_alloc | apply pw_below_drewN | apply below_drew1) | exact HB.out)))); have n2_ := Aside0.mk (below_step (by repeat (first | (with_reducible first | exact HB.out | apply below_alloc | apply pw_below_drewN | apply below_drew1) | exact HB.out)) hb); clear HO_4; clear HB; have HO_4 := n0_; have HO257 := n1_; have HB := n2_; clear n0_ n1_ n2_; (try clear hb); (try clear hb2); (try clear hk); (try clear hi); (try clear ho0)) | ((with_reducible refine gate_dst (N := 6) rfl ?_); refine box_event ?hg (N := 6) ?hd (cs := #[.int .u8 0, .slice none 0 0]) (t := 53) ?hr ?_; (case hd => rfl); (case hg => rfl); (case hr => first | (go_simp; done) | (go_simp; rfl)); intro gb260 hg w13 hbox hb; have n0_ := Aside0.mk (Kd.N_below (Kd.N_elderB (by (with_reducible repeat (first | apply Kd.N_alloc | apply Kd.N_drewN | apply Kd.N_drew)); exact HO_4.out) gb260 (Nat.le_of_eq hg.symm)) hb); have n1_ := Aside0.mk (Kd.V_below (Kd.V_elderB (by (with_reducible repeat (first | apply Kd.V_alloc | apply Kd.V_drewN | apply Kd.V_drew)); exact HO257.out) gb260 (Nat.le_of_eq hg.symm)) hb); have n2_ := Aside0.mk (below_step (by repeat (first | (with_reducible first | exact HB.out | apply below_alloc | apply pw_below_drewN | apply below_drew1) | exact HB.out)) hb); have n3_ := Aside0.mk (hbox); have n4_ := Aside0.mk ((by rw [hg]; exact (below_size (by repeat (first | (with_reducible first | exact HB.out | apply below_alloc | apply pw_below_drewN | apply below_drew1) | exact HB.out))) : w.heap.size ≤ gb260)); have n5_ := Aside0.mk ((by rw [hg]; exact (below_size (by repeat (first | (with_reducible first | exact HB.out | apply below_alloc | apply pw_below_drewN | apply below_drew1) | exact HB.out))) : w.heap.size ≤ gb260)); clear HO_4; clear HO257; clear HB; have HO_4 := n0_; have HO257 := n1_; have HB := n2_; have BK260 := n3_; have GW260 := n4_; have GE260 := n5_; clear n0_ n1_ n2_ n3_ n4_ n5_; clear hb hbox hg; have hcz14_0 : w13.cell? ⟨gb260, 0, none⟩ = some (.int .u8 0) := (blk_cell BK260.out 0).trans rfl; have hcz14_1 : w13.cell? ⟨gb260, 1, none⟩ = some (.slice none 0 0) := (blk_cell BK260.out 1).trans rfl; have hfz14_0 := blk_frozen BK260.out 0; have hfz14_1 := blk_frozen BK260.out 1; obtain ⟨Ao15, co15, eo15⟩ := Kd.V_slice HO257.out; subst eo15) | ((with_reducible refine gate_store (t := 53) (p := 6) rfl ?_); refine store_event (t := 53) (p := 6) (v := ?vo_w16) (w1 := ((w13.setCell ⟨gb260, 0, none⟩ (.int .u8 t254)).setCell ⟨gb260, 1, none⟩ (.slice Ao15 t255.length co15))) ?hg ?ho ?hn ?hr ?_; (case ho => rfl); (case hg => rfl); (case hn => rfl); (case hr => first | (go_simp; done) | (go_simp; rfl)); intro w16 hw; have n0_ : Aside0 (Kd.N k53 53 w16 w.heap.size (fun k_ => (w.heap.size ≤ k_) ∧ k_ ≠ gb260) (.slice Ao4 x4_1.length co4) x4_1) := ⟨(by rw [hw]; exact (by (with_reducible repeat (first | apply Kd.N_alloc | apply Kd.N_drewN | apply Kd.N_drew)); exact Kd.N_mono (Kd.N_far (p := ⟨gb260, 1, none⟩) (Kd.N_far (p := ⟨gb260, 0, none⟩) (Kd.N_mono HO_4.out (fun k_ hk => (⟨hk, hk.2⟩ : _ ∧ k_ ≠ gb260))) (fun _ hk => hk.2) (.int .u8 t254)) (fun _ hk => hk.2) (.slice Ao15 t255.length co15)) (fun _ hk => ⟨hk.1.1, hk.1.2⟩)))⟩; have n1_ : Aside0 (Kd.V (Kd.int .u8) 5 w16 w.heap.size (fun k_ => (w.heap.size ≤ k_) ∧ some k_ ≠ (.slice Ao4 x4_1.length co4 : Value).ownBlock ∧ k_ ≠ gb260) (.slice Ao15 t255.length co15) t255) := ⟨(by rw [hw]; exact (by (with_reducible repeat (first | apply Kd.V_alloc | apply Kd.V_drewN | apply Kd.V_drew)); exact Kd.V_mono (Kd.V_far (p := ⟨gb260, 1, none⟩) (Kd.V_far (p := ⟨gb260, 0, none⟩) (Kd.V_mono HO257.out (fun k_ hk => (⟨hk, hk.2⟩ : _ ∧ k_ ≠ gb260))) (fun _ hk => hk.2) (.int .u8 t254)) (fun _ hk => hk.2) (.slice Ao15 t255.length co15)) (fun _ hk => ⟨hk.1.1.1, ⟨hk.1.1.2, hk.1.2⟩⟩)))⟩; have n2_ : Aside0 (w16.heap[gb260]? = some (.cells #[.int .u8 t254, .slice Ao15 t255.length co15] 53 (0, 0))) := ⟨(by rw [hw]; exact (by (with_reducible repeat (first | refine blk_drewN ?_ _ | refine blk_drew ?_ | refine blk_alloc ?_ _)); refine blk_put (cs := #[.int .u8 t254, .slice none 0 0]) ?_ 1 _ rfl; (with_reducible repeat (first | refine blk_drewN ?_ _ | refine blk_drew ?_ | refine blk_alloc ?_ _)); refine blk_put (cs := #[.int .u8 0, .slice none 0 0]) ?_ 0 _ rfl; (with_reducible repeat (first | refine blk_drewN ?_ _ | refine blk_drew ?_ | refine blk_alloc ?_ _)); exact BK260.out))⟩; have n3_ : Aside0 (Below w.heap.size w w16) := ⟨(by rw [hw]; exact (by repeat (first | (with_reducible first | exact HB.out | apply below_alloc | apply pw_below_drewN | apply below_drew1 | refine below_set ?_ GE260.out) | exact HB.out)))⟩; clear hw; clear HO_4; clear HO257; clear BK260; clear HB; have HO_4 := n0_; have HO257 := n1_; have BK260 := n2_; have HB := n3_; clear n0_ n1_ n2_ n3_; have hcz17_0 : w16.cell? ⟨gb260, 0, none⟩ = some (.int .u8 t254) := (blk_cell BK260.out 0).trans rfl; have hcz17_1 : w16.cell? ⟨gb260, 1, none⟩ = some (.slice Ao15 t255.length co15) := (blk_cell BK260.out 1).trans rfl; have hfz17_0 := blk_frozen BK260.out 0; have hfz17_1 := blk_frozen BK260.out 1) | ((with_reducible refine gate_builtin (b := .append) (xs := #[.tmp 40, .tmp 42]) rfl ?_); at_builtin; refine Kd.N_append k53 (w0 := w) w.heap.size rfl (.tmp 40) (.tmp 42) 35 53 (.agg #[(.int .u8 0), (.slice none 0 0)]) 32 rfl Try.underlying35 info53 rfl (by decide) (by omega) (.slice Ao4 x4_1.length co4) x4_1 (⟨t254, t255⟩ : S53) [.int .u8 t254, .slice Ao15 t255.length co15] (fun k_ => (w.heap.size ≤ k_) ∧ k_ ≠ gb260) (fun k_ => ((fun k_ => (w.heap.size ≤ k_) ∧ k_ ≠ gb260)) k_ ∧ some k_ ≠ (.slice Ao4 x4_1.length co4 : Value).ownBlock) rfl rfl ?aP (fun _ hk => hk) ?aF ?aO ?aB ?aS ?aL ?_; (case aP => exact (k53_mkF _ _ (⟨t254, t255⟩ : S53) (Kd.V_reads' (Kd.V_mono (ok' := (fun k_ => ((fun k_ => (w.heap.size ≤ k_) ∧ k_ ≠ gb260)) k_ ∧ some k_ ≠ (.slice Ao4 x4_1.length co4 : Value).ownBlock)) (HO257.out) (fun k_ hk => ⟨⟨hk.1, hk.2.2⟩, hk.2.1⟩))).2.1 (Kd.V_F (Kd.V_mono (ok' := (fun k_ => ((fun k_ => (w.heap.size ≤ k_) ∧ k_ ≠ gb260)) k_ ∧ some k_ ≠ (.slice Ao4 x4_1.length co4 : Value).ownBlock)) (HO257.out) (fun k_ hk => ⟨⟨hk.1, hk.2.2⟩, hk.2.1⟩))))); (case aB => exact (by repeat (first | (with_reducible first | exact HB.out | apply below_alloc | apply pw_below_drewN | apply below_drew1 | refine below_set ?_ GE260.out) | exact HB.out))); (case aF => exact (fun k_ hk => ⟨(Nat.le_trans (below_size (by repeat (first | (with_reducible first | exact HB.out | apply below_alloc | apply pw_below_drewN | apply below_drew1 | refine below_set ?_ GE260.out) | exact HB.out))) hk), Kd.freshB (g := gb260) (o := .cells #[.int .u8 t254, .slice Ao15 t255.length co15] 53 (0, 0)) (by (with_reducible repeat (first | refine blk_drewN ?_ _ | refine blk_drew ?_ | refine blk_alloc ?_ _)); exact BK260.out) k_ hk⟩)); (case aO => exact (by (with_reducible repeat (first | apply Kd.N_alloc | apply Kd.N_drewN | apply Kd.N_drew)); exact HO_4.out)); (case aS => exact (below_size (by repeat (first | (with_reducible first | exact HB.out | apply below_alloc | apply pw_below_drewN | apply below_drew1 | refine below_set ?_ GE260.out) | exact HB.out)))); (case aL => have := LMc11.out; omega); intro v262 w18 ho hb hg hat; rw [← Ny261.out] at ho; have n0_ := Aside0.mk (Kd.V_afterv (ok := (fun k_ => (w.heap.size ≤ k_) ∧ k_ ≠ gb260)) (by (with_reducible repeat (first | apply Kd.V_alloc | apply Kd.V_drewN | apply Kd.V_drew)); exact Kd.V_mono HO257.out (fun _ hk => ⟨⟨hk.1, hk.2.2⟩, hk.2.1⟩)) hg hat); have n1_ := Aside0.mk (blk_grown (g := gb260) (o := .cells #[.int .u8 t254, .slice Ao15 t255.length co15] 53 (0, 0)) (by (with_reducible repeat (first | refine blk_drewN ?_ _ | refine blk_drew ?_ | refine blk_alloc ?_ _)); exact BK260.out) hg (Kd.N_away HO_4.out (fun _ hk => hk.2))); have n2_ := Aside0.mk (hb); have n3_ := Aside0.mk (ho); clear HO257; clear BK260; clear HB; clear HO_4; have HO257 := n0_; have BK260 := n1_; have HB := n2_; have HO263 := n3_; clear n0_ n1_ n2_ n3_; clear ho hb hg hat))
                  go_roundg kj2
                  case measure => have := HK1.out; have := HJ2.out; omega
                  case rel => exact ⟨(y261), (t258), (by first | rfl | (simp; done) | (simp [*]; done)), H', ⟨by have := HK1.out; have := HJ2.out; omega⟩, ⟨by (with_reducible repeat (first | apply Kd.N_alloc | apply Kd.N_drewN | apply Kd.N_drew)); exact Kd.N_mono HO263.out (fun _ hk => hk.1)⟩, ⟨by repeat (first | (with_reducible first | exact HB.out | apply below_alloc | apply pw_below_drewN | apply below_drew1 | refine below_set ?_ GE260.out) | exact HB.out)⟩⟩
                · rw [if_neg c11] at H
                  exact absurd H (by simp)
              · rw [if_neg c10] at H
                have c10b0 : (t259 == 0) = false := beq_eq_false_iff_ne.mpr c10
                have c10b1 : (t259 != 0) = true := bne_iff_ne.mpr c10
                simp only [Option.some.injEq, Prod.mk.injEq] at H
                obtain ⟨rfl, rfl⟩ := H
                go_wp2_with (first | ((with_reducible refine gate_callee (f := 27) rfl ?_); refine goesL_ (some 33) rfl rfl Try.func27 (by kernel_rfl) rfl #[.slice A0 l0.length c0, .int .i64 x5_2, .slice Ao4 x4_1.length co4] rfl (by (try simp only [List.map_toArray, List.map_cons, List.map_nil]); first | done | rfl | (simp only [List.length_drop, List.length_take]; rfl)) ?_; (with_reducible refine (groove_one.calls kj2 _ _ l0 x5_2 _ _ x4_1 t254 t255 t258 t259 _ ?side1 ?side2 ?side3 ?side4 A9.out).mono ?_); (case side1 => repeat (first | exact (Kd.C_below HR0.out HB.out) | (with_reducible refine Kd.C_alloc ?_ _) | (with_reducible refine Kd.C_drewN ?_ _) | (with_reducible refine Kd.C_drew ?_))); (case side2 => exact HC0.out); (case side3 => repeat (first | exact (Kd.N_reads' HO_4.out).2.2 | (with_reducible refine Kd.C_alloc ?_ _) | (with_reducible refine Kd.C_drewN ?_ _) | (with_reducible refine Kd.C_drew ?_))); (case side4 => exact (Kd.N_reads' HO_4.out).2.1); rintro e w19 ⟨v256, rfl, ho0, hb⟩; refine ⟨_, rfl, ?_⟩; have n0_ := Aside0.mk (Kd.N_below (by (with_reducible repeat (first | apply Kd.N_alloc | apply Kd.N_drewN | apply Kd.N_drew)); exact HO_4.out) hb); have n1_ := Aside0.mk (Kd.V_lower (Kd.V_mono (ok' := fun k_ => (w.heap.size ≤ k_) ∧ some k_ ≠ (.slice Ao4 x4_1.length co4 : Value).ownBlock) ho0 (fun k_ hk_ => ⟨(Nat.le_trans (below_size (by repeat (first | (with_reducible first | exact HB.out | apply below_alloc | apply pw_below_drewN | apply below_drew1) | exact HB.out))) hk_), (Kd.fresh' (Kd.N_lt (by (with_reducible repeat (first | apply Kd.N_alloc | apply Kd.N_drewN | apply Kd.N_drew)); exact HO_4.out)) k_ hk_)⟩)) (below_size (by repeat (first | (with_reducible first | exact HB.out | apply below_alloc | apply pw_below_drewN | apply below_drew1) | exact HB.out)))); have n2_ := Aside0.mk (below_step (by repeat (first | (with_reducible first | exact HB.out | apply below_alloc | apply pw_below_drewN | apply below_drew1) | exact HB.out)) hb); clear HO_4; clear HB; have HO_4 := n0_; have HO257 := n1_; have HB := n2_; clear n0_ n1_ n2_; (try clear hb); (try clear hb2); (try clear hk); (try clear hi); (try clear ho0)) | ((with_reducible refine gate_dst (N := 6) rfl ?_); refine box_event ?hg (N := 6) ?hd (cs := #[.int .u8 0, .slice none 0 0]) (t := 53) ?hr ?_; (case hd => rfl); (case hg => rfl); (case hr => first | (go_simp; done) | (go_simp; rfl)); intro gb260 hg w20 hbox hb; have n0_ := Aside0.mk (Kd.N_below (Kd.N_elderB (by (with_reducible repeat (first | apply Kd.N_alloc | apply Kd.N_drewN | apply Kd.N_drew)); exact HO_4.out) gb260 (Nat.le_of_eq hg.symm)) hb); have n1_ := Aside0.mk (Kd.V_below (Kd.V_elderB (by (with_reducible repeat (first | apply Kd.V_alloc | apply Kd.V_drewN | apply Kd.V_drew)); exact HO257.out) gb260 (Nat.le_of_eq hg.symm)) hb); have n2_ := Aside0.mk (below_step (by repeat (first | (with_reducible first | exact HB.out | apply below_alloc | apply pw_below_drewN | apply below_drew1) | exact HB.out)) hb); have n3_ := Aside0.mk (hbox); have n4_ := Aside0.mk ((by rw [hg]; exact (below_size (by repeat (first | (with_reducible first | exact HB.out | apply below_alloc | apply pw_below_drewN | apply below_drew1) | exact HB.out))) : w.heap.size ≤ gb260)); have n5_ := Aside0.mk ((by rw [hg]; exact (below_size (by repeat (first | (with_reducible first | exact HB.out | apply below_alloc | apply pw_below_drewN | apply below_drew1) | exact HB.out))) : w.heap.size ≤ gb260)); clear HO_4; clear HO257; clear HB; have HO_4 := n0_; have HO257 := n1_; have HB := n2_; have BK260 := n3_; have GW260 := n4_; have GE260 := n5_; clear n0_ n1_ n2_ n3_ n4_ n5_; clear hb hbox hg; have hcz21_0 : w20.cell? ⟨gb260, 0, none⟩ = some (.int .u8 0) := (blk_cell BK260.out 0).trans rfl; have hcz21_1 : w20.cell? ⟨gb260, 1, none⟩ = some (.slice none 0 0) := (blk_cell BK260.out 1).trans rfl; have hfz21_0 := blk_frozen BK260.out 0; have hfz21_1 := blk_frozen BK260.out 1; obtain ⟨Ao22, co22, eo22⟩ := Kd.V_slice HO257.out; subst eo22))
                go_ret2
                exact ⟨_, by first | rfl | (simp [errW_none, errW_some] <;> rfl) | (simp [*, errW_none, errW_some] <;> rfl), by first | exact Kd.S_nil _ _ _ _ _ | exact Kd.N_nil _ _ _ _ _ | exact Kd.V_nil _ _ _ _ _ | exact Kd.Q_nil _ _ _ _ _ | exact Kd.R_nil _ _ _ _ _, by repeat (first | (with_reducible first | exact HB.out | apply below_alloc | apply pw_below_drewN | apply below_drew1 | refine below_set ?_ GE260.out) | exact HB.out)⟩
      · rw [if_neg c2] at H
        have c2b0 : decide ((x4_1.length : Int) < 512) = false := decide_eq_false c2
        have c2b1 : decide (x4_1.length < 512) = false := decide_eq_false (by omega)
        clear c2
        simp only [Option.some.injEq, Prod.mk.injEq] at H
        obtain ⟨rfl, rfl⟩ := H
        obtain ⟨Ao23, co23, eo23⟩ := Kd.N_slice HO_4.out
        subst eo23
        go_wp2
        go_ret2
        exact ⟨_, by first | rfl | (simp [errW_none, errW_some] <;> rfl) | (simp [*, errW_none, errW_some] <;> rfl), by (with_reducible repeat (first | apply Kd.N_alloc | apply Kd.N_drewN | apply Kd.N_drew)); exact HO_4.out, by repeat (first | (with_reducible first | exact HB.out | apply below_alloc | apply pw_below_drewN | apply below_drew1) | exact HB.out)⟩

-- NOT PRINTED: function 35 (block_Block_35)

/-! ### block_Same: function 22, by hand -/
def block_Same.eqB (x y : S53) : Bool := (x.f0 == y.f0) && (x.f1 == y.f1)
def block_Same.sm : List (S53) → List (S53) → Bool
  | [], [] => true
  | x :: xs, y :: ys => block_Same.eqB x y && block_Same.sm xs ys
  | _, _ => false
def block_Same.fine (l : List (S53)) : Prop := ∀ x ∈ l, ∀ b ∈ x.f1, 0 ≤ b ∧ b < 256
instance (l : List (S53)) : Decidable (block_Same.fine l) := by unfold block_Same.fine; exact inferInstance
def block_Same.f (l0 l1 : List (S53)) : Option Bool := if block_Same.fine l0 ∧ block_Same.fine l1 then some (block_Same.sm l0 l1) else none
theorem block_Same.bytes_eq (xs ys : List Int) (hx : ∀ b ∈ xs, 0 ≤ b ∧ b < 256) (hy : ∀ b ∈ ys, 0 ≤ b ∧ b < 256) : (Lib.bytesOf xs == Lib.bytesOf ys) = (xs == ys) := by
  rw [Bool.eq_iff_iff, beq_iff_eq, beq_iff_eq]
  refine ⟨fun h => ?_, fun h => by rw [h]⟩
  have hl : xs.length = ys.length := by have := congrArg List.length h; simpa [Lib.bytesOf] using this
  apply List.ext_getElem hl
  intro i h1 h2
  have e : (Lib.bytesOf xs)[i]? = (Lib.bytesOf ys)[i]? := by rw [h]
  simp only [Lib.bytesOf, List.getElem?_map, List.getElem?_eq_getElem h1, List.getElem?_eq_getElem h2, Option.map_some, Option.some.injEq] at e
  have e2 := congrArg UInt8.toNat e
  have bx := hx _ (List.getElem_mem h1)
  have by_ := hy _ (List.getElem_mem h2)
  rw [UInt8.toNat_ofNat_of_lt' (by simp [UInt8.size]; omega), UInt8.toNat_ofNat_of_lt' (by simp [UInt8.size]; omega)] at e2
  omega
theorem block_Same.bytes_in {w : World} {A : Option Addr} {xs : List Int} (h : Kd.C (Kd.int .u8) w A xs.length xs) : Lib.BytesIn w A xs.length xs := by
  cases A with
  | none =>
    intro hn
    obtain ⟨ad, he, _⟩ := Kd.at_int h 0 (by omega) (by omega)
    cases he
  | some a =>
    refine Lib.BytesIn.of_cells (fun i hi => ?_)
    obtain ⟨ad, he, hc⟩ := Kd.at_int h (i : Int) (by omega) (by omega)
    cases he
    simpa [rd] using hc
set_option maxHeartbeats 400000 in
theorem block_Same.one (x y : S53) (A0 A1 : Option Addr) (c0 c1 : Nat) (w : World) (hx : ∀ b ∈ x.f1, 0 ≤ b ∧ b < 256) (hy : ∀ b ∈ y.f1, 0 ≤ b ∧ b < 256) (h0 : Kd.C (Kd.int .u8) w A0 x.f1.length x.f1) (h1 : Kd.C (Kd.int .u8) w A1 y.f1.length y.f1) :
    Calls Try.prog 36 #[.agg #[.int .u8 x.f0, .slice A0 x.f1.length c0], .agg #[.int .u8 y.f0, .slice A1 y.f1.length c1]] w fun e w' => e = .returned (.bool (block_Same.eqB x y)) ∧ Below w.heap.size w w' := by
  obtain ⟨k, d⟩ := x
  obtain ⟨k2, d2⟩ := y
  unfold block_Same.eqB
  dsimp only at *
  have H0 := Aside0.mk h0
  have H1 := Aside0.mk h1
  have HE := Aside0.mk (block_Same.bytes_eq d d2 hx hy)
  clear hx hy h0 h1
  by_cases hk : k = k2
  · have t1 : (k == k2) = true := by simpa using hk
    rw [t1, Bool.true_and]
    clear hk
    go_enter Try.func36, Try.ntmps36
    go_wp2_with (go_at_call 37; refine (Try.bytes_Equal_all A0 A1 d.length c0 d2.length c1 d d2 _ rfl rfl (block_Same.bytes_in (Kd.C_below H0.out (below_alloc (below_alloc (Below.refl _ _) _) _))) (block_Same.bytes_in (Kd.C_below H1.out (below_alloc (below_alloc (Below.refl _ _) _) _)))).mono ?_; rintro e w' ⟨rfl, rfl⟩)
    go_ret
    exact ⟨congrArg (fun b => Ending.returned (.bool b)) HE.out, below_alloc (below_alloc (Below.refl _ _) _) _⟩
  · have t1 : (k == k2) = false := by simpa using hk
    rw [t1, Bool.false_and]
    clear hk
    go_enter Try.func36, Try.ntmps36
    go_wp2
    go_ret
    exact ⟨rfl, below_alloc (below_alloc (Below.refl _ _) _) _⟩
theorem block_Same.sm_len : ∀ (l0 l1 : List (S53)), l0.length ≠ l1.length → block_Same.sm l0 l1 = false
  | [], [], h => absurd rfl h
  | [], _ :: _, _ => rfl
  | _ :: _, [], _ => rfl
  | x :: xs, y :: ys, h => by
    unfold block_Same.sm
    rw [block_Same.sm_len xs ys (fun e => h (by simp [e])), Bool.and_false]
theorem block_Same.sm_at (z : S53) : ∀ (l0 l1 : List (S53)) (i : Nat), i < l0.length → i < l1.length → block_Same.sm (l0.take (i + 1)) (l1.take (i + 1)) = (block_Same.sm (l0.take i) (l1.take i) && block_Same.eqB (l0.getD i z) (l1.getD i z))
  | [], _, _, h, _ => absurd h (Nat.not_lt_zero _)
  | _ :: _, [], _, _, h => absurd h (Nat.not_lt_zero _)
  | x :: xs, y :: ys, 0, _, _ => by simp only [List.take_succ_cons, List.take_zero, block_Same.sm, List.getD_cons_zero, Bool.and_true, Bool.true_and]
  | x :: xs, y :: ys, i + 1, h0, h1 => by
    simp only [List.take_succ_cons, block_Same.sm, List.getD_cons_succ]
    have ih := block_Same.sm_at z xs ys i (by simpa using h0) (by simpa using h1)
    rw [ih, Bool.and_assoc]
theorem block_Same.sm_no (z : S53) : ∀ (l0 l1 : List (S53)) (i : Nat), i < l0.length → i < l1.length → block_Same.eqB (l0.getD i z) (l1.getD i z) = false → block_Same.sm l0 l1 = false
  | [], _, _, h, _, _ => absurd h (Nat.not_lt_zero _)
  | _ :: _, [], _, _, h, _ => absurd h (Nat.not_lt_zero _)
  | x :: xs, y :: ys, 0, _, _, h => by simp only [List.getD_cons_zero] at h; rw [block_Same.sm, h, Bool.false_and]
  | x :: xs, y :: ys, i + 1, h0, h1, h => by
    simp only [List.getD_cons_succ] at h
    rw [block_Same.sm, block_Same.sm_no z xs ys i (by simpa using h0) (by simpa using h1) h, Bool.and_false]
theorem block_Same.fine_at {l : List (S53)} (h : block_Same.fine l) (i : Int) : ∀ b ∈ (rd_T53 l i).f1, 0 ≤ b ∧ b < 256 := by
  unfold rd_T53
  rw [List.getD_eq_getElem?_getD]
  cases hx : l[i.toNat]? with
  | none => intro b hb; cases hb
  | some x => exact h x (List.mem_of_getElem? hx)
set_option maxHeartbeats 400000 in
set_option maxRecDepth 100000 in
theorem block_Same.func (A0 : Option Addr) (c0 : Nat) (l0 : List (S53)) (A1 : Option Addr) (c1 : Nat) (l1 : List (S53)) (w : World) (hr0 : Kd.C k53 w A0 l0.length l0) (hr1 : Kd.C k53 w A1 l1.length l1) (hf0 : block_Same.fine l0) (hf1 : block_Same.fine l1) :
    Calls Try.prog 35 #[.slice A0 l0.length c0, .slice A1 l1.length c1, .func (.func 36) #[] #[]] w fun e w' => e = .returned (.bool (block_Same.sm l0 l1)) ∧ Below w.heap.size w w' := by
  by_cases hl : l0.length = l1.length
  · have H0 := Aside0.mk hr0
    have H1 := Aside0.mk hr1
    have HF := Aside0.mk (And.intro hf0 hf1)
    have HL := Aside0.mk hl
    have hm0 := hr0.2.1
    have t1 : ((l0.length : Int) != (l1.length : Int)) = false := by rw [bne_eq_false_iff_eq]; omega
    have HSM := Aside0.mk (block_Same.sm_at z53 l0 l1)
    have HNO := Aside0.mk (block_Same.sm_no z53 l0 l1)
    clear hr0 hr1 hf0 hf1 hl
    go_enter Try.func35, Try.ntmps35
    go_wp2
    go_loopg [17] l0.length (fun kq v17 w' => ∃ i : Int, v17 = .int .i64 i ∧ Aside0 (0 ≤ i ∧ i + kq = l0.length) ∧ Aside0 (block_Same.sm (l0.take i.toNat) (l1.take i.toNat) = true) ∧ Aside0 (Below w.heap.size w w'))
    case atStart => exact ⟨0, rfl, ⟨by omega⟩, ⟨rfl⟩, ⟨Below.refl _ _⟩⟩
    case round =>
      obtain ⟨i, rfl, HI, HS, HB⟩ := hrel
      by_cases hi : i < (l0.length : Int)
      · have hI := HI.out
        have hLL := HL.out
        obtain ⟨ad0, B0, d0, e0, x00, x01, xl0, xc0⟩ := at_T53 H0.out i (by omega) hi
        obtain ⟨ad1, B1, d1, e1, x10, x11, xl1, xc1⟩ := at_T53 H1.out i (by omega) (by omega)
        subst e0 e1
        replace x00 := pw_cell_below HB.out x00
        replace x01 := pw_cell_below HB.out x01
        replace x10 := pw_cell_below HB.out x10
        replace x11 := pw_cell_below HB.out x11
        have K0 := Aside0.mk (Kd.C_below xc0 HB.out)
        have K1 := Aside0.mk (Kd.C_below xc1 HB.out)
        have y10 := pw_cell_below (below_alloc (Below.refl wr.heap.size wr) (.cells #[Value.int .u8 (rd_T53 l0 i).f0, .slice B0 (rd_T53 l0 i).f1.length d0] 53)) x10
        have y11 := pw_cell_below (below_alloc (Below.refl wr.heap.size wr) (.cells #[Value.int .u8 (rd_T53 l0 i).f0, .slice B0 (rd_T53 l0 i).f1.length d0] 53)) x11
        have q0 := eq_true (show 0 ≤ i by omega)
        have q1 := eq_true hi
        have q2 := eq_true (show i < (l1.length : Int) by omega)
        have s1 : decide (i < (l0.length : Int)) = true := decide_eq_true hi
        have WW := Aside0.mk (show wrap64 (i + 1) = i + 1 by unfold wrap64; omega)
        have hN : i.toNat < l0.length ∧ i.toNat < l1.length := by omega
        have HN := Aside0.mk hN
        have hE : block_Same.sm (l0.take (i + 1).toNat) (l1.take (i + 1).toNat) = block_Same.eqB (rd_T53 l0 i) (rd_T53 l1 i) := by
          rw [show (i + 1).toNat = i.toNat + 1 by omega, HSM.out i.toNat hN.1 hN.2, HS.out, Bool.true_and]; rfl
        have HE := Aside0.mk hE
        have HI2 := Aside0.mk (show (0 ≤ i + 1 ∧ (i + 1) + ((gk - 1 : Nat) : Int) = l0.length) ∧ gk - 1 < gk by omega)
        have FN := Aside0.mk (And.intro (block_Same.fine_at HF.out.1 i) (block_Same.fine_at HF.out.2 i))
        clear xl0 xl1 xc0 xc1 hE hI hLL hN hi
        go_wp2_with fail
        have hbb := below_alloc (below_alloc (Below.refl wr.heap.size wr) (.cells #[Value.int .u8 (rd_T53 l0 i).f0, .slice B0 (rd_T53 l0 i).f1.length d0] 53)) (.cells #[Value.int .u8 (rd_T53 l1 i).f0, .slice B1 (rd_T53 l1 i).f1.length d1] 53)
        have HBB := Aside0.mk (HB.out.trans (hbb.mono (below_size HB.out)))
        refine (block_Same.one (rd_T53 l0 i) (rd_T53 l1 i) B0 B1 d0 d1 _ FN.out.1 FN.out.2 (Kd.C_below K0.out hbb) (Kd.C_below K1.out hbb)).mono ?_
        clear hbb x00 x01 x10 x11 y10 y11
        rintro e w2 ⟨rfl, hb⟩
        have HB2 := Aside0.mk (HBB.out.trans (hb.mono (below_size HBB.out)))
        clear hb
        cases hq : block_Same.eqB (rd_T53 l0 i) (rd_T53 l1 i) with
        | true =>
          rw [hq] at HE
          clear hq
          go_wp2_with fail
          go_roundg (gk - 1)
          case measure => have := HI2.out.2; omega
          case rel => exact ⟨i + 1, by rw [WW.out], ⟨HI2.out.1⟩, HE, HB2⟩
        | false =>
          have HR := Aside0.mk (HNO.out i.toNat HN.out.1 HN.out.2 hq)
          clear hq
          go_wp2_with fail
          go_ret
          exact ⟨congrArg (fun b => Ending.returned (.bool b)) HR.out.symm, HB2.out⟩
      · have hI := HI.out
        have hin : i = (l0.length : Int) := by omega
        subst hin
        have hLL := HL.out
        have hS := HS.out
        rw [Int.toNat_natCast, List.take_length, hLL, List.take_length] at hS
        have HR := Aside0.mk hS
        have s1 : decide ((l0.length : Int) < (l0.length : Int)) = false := decide_eq_false (by omega)
        clear hS hLL hI hi HI HS
        go_wp2_with fail
        go_ret
        exact ⟨congrArg (fun b => Ending.returned (.bool b)) HR.out.symm, HB.out⟩
  · have t1 : ((l0.length : Int) != (l1.length : Int)) = true := by rw [bne_iff_ne]; omega
    have HE := Aside0.mk (block_Same.sm_len l0 l1 hl)
    clear hr0 hr1 hf0 hf1 hl
    go_enter Try.func35, Try.ntmps35
    go_wp2
    go_ret
    exact ⟨congrArg (fun b => Ending.returned (.bool b)) HE.out.symm, Below.refl _ _⟩
set_option maxHeartbeats 400000 in
theorem block_Same.calls (A0 : Option Addr) (c0 : Nat) (l0 : List (S53)) (A1 : Option Addr) (c1 : Nat) (l1 : List (S53)) (r : Bool) (w : World) (hr0 : Kd.C k53 w A0 l0.length l0) (hc0 : l0.length ≤ c0) (hr1 : Kd.C k53 w A1 l1.length l1) (hc1 : l1.length ≤ c1) (h : block_Same.f l0 l1 = some r) :
    Calls Try.prog 22 #[.slice A0 l0.length c0, .slice A1 l1.length c1] w fun e w' => e = .returned (.bool r) ∧ Below w.heap.size w w' := by
  unfold block_Same.f at h
  by_cases hf : block_Same.fine l0 ∧ block_Same.fine l1
  · rw [if_pos hf] at h
    obtain rfl := Option.some.inj h
    have HC := Aside0.mk (block_Same.func A0 c0 l0 A1 c1 l1 w hr0 hr1 hf.1 hf.2)
    clear h hr0 hr1 hc0 hc1 hf
    go_enter Try.func22, Try.ntmps22
    go_wp2_with fail
    refine HC.out.mono ?_
    rintro e w' ⟨rfl, hb⟩
    have HB := Aside0.mk hb
    clear hb
    go_wp2_with fail
    go_ret
    exact ⟨rfl, HB.out⟩
  · rw [if_neg hf] at h
    cases h

/-! ### groove_Places: function 23 -/
def groove_Places.l0 : Nat → List Int → Int → List (S53) → Int → Int → Option (List Int)
  | 0, _, _, _, _, _ => none
  | k + 1, x3, x4, x7, x8, x9 => if x9 < x8 then (if 0 ≤ x9 then (if x9 < (x7.length : Int) then (if x3.length < 17592186044416 then (groove_Places.l0 k (x3 ++ [x4]) (wrap64 (x4 + (wrap64 ((wrap64 ((wrap64 ((wrap64 ((((rd_T53 x7 x9).f1).length : Int) + 1)) + 2)) + 120)) + 1)))) x7 x8 (wrap64 (x9 + 1))) else (none)) else (none)) else (none)) else (some x3)
def groove_Places.f (k : Nat) (l0 : List (S53)) : Option (List Int) := groove_Places.l0 k ([] : List Int) 3501 l0 (l0.length : Int) 0
theorem groove_Places.mono_l : ∀ k, (∀ y0 y1 y2 y3 y4, LeO (groove_Places.l0 k y0 y1 y2 y3 y4) (groove_Places.l0 (k + 1) y0 y1 y2 y3 y4))
  | 0 => fun _ _ _ _ _ r h => by simp [groove_Places.l0] at h
  | k + 1 => by
    have ih0 := groove_Places.mono_l k
    · intro y0 y1 y2 y3 y4
      unfold groove_Places.l0
      repeat' first
      | (with_reducible exact ih0 _ _ _ _ _)
      | (with_reducible exact LeO.refl _)
      | (with_reducible exact LeO.none _)
      | (with_reducible refine LeO.ite ?_ ?_)
      | (with_reducible refine LeO.bind ?_ (fun _ => ?_))
      | exact ih0 _ _ _ _ _
      | exact LeO.none _
      | refine LeO.ite ?_ ?_
      | refine LeO.bind ?_ (fun _ => ?_)
theorem groove_Places.mono : ∀ a0 k, LeO (groove_Places.f k a0) (groove_Places.f (k + 1) a0) := by
  intro a0 k
  have ih0 := groove_Places.mono_l k
  unfold groove_Places.f
  repeat' first
      | (with_reducible exact ih0 _ _ _ _ _)
      | (with_reducible exact LeO.refl _)
      | (with_reducible exact LeO.none _)
      | (with_reducible refine LeO.ite ?_ ?_)
      | (with_reducible refine LeO.bind ?_ (fun _ => ?_))
      | exact ih0 _ _ _ _ _
      | exact LeO.none _
      | refine LeO.ite ?_ ?_
      | refine LeO.bind ?_ (fun _ => ?_)
set_option maxHeartbeats 8000000 in
set_option maxRecDepth 100000 in
theorem groove_Places.calls (k : Nat) (A0 : Option Addr) (c0 : Nat) (l0 : List (S53)) (r : List Int) (w : World) (hr0 : Kd.C k53 w A0 l0.length l0) (hc0 : l0.length ≤ c0) (h : groove_Places.f k l0 = some r) :
    Calls Try.prog 23 #[.slice A0 l0.length c0] w fun e w' => ∃ v0_ : Value, e = .returned (v0_) ∧ Kd.R (Kd.int .i64) 3 w' w.heap.size (fun _ => True) v0_ r ∧ Below w.heap.size w w' := by
  have hu53 := Try.underlying53
  have HR0 := Aside0.mk hr0
  have HC0 := Aside0.mk hc0
  clear hr0 hc0
  have HB := Aside0.mk (Below.refl w.heap.size w)
  have H : (groove_Places.l0 k ([] : List Int) 3501 l0 (l0.length : Int) 0) = some r := h
  clear h
  have H' := Aside0.mk H
  clear H
  go_enter Try.func23, Try.ntmps23
  go_wp2
  go_loopg [3, 4, 9] k (fun kq v3 v4 v9 w' => ∃ (x3_1 : List Int) (x4_1 : Int) (x9_1 : Int), v4 = .int .i64 x4_1 ∧ v9 = .int .i64 x9_1 ∧ Aside0 (groove_Places.l0 kq x3_1 x4_1 l0 (l0.length : Int) x9_1 = some r) ∧ Aside0 (kq ≤ k) ∧ Aside0 (Kd.R (Kd.int .i64) 3 w' w.heap.size (fun _ => True) v3 x3_1) ∧ Aside0 (Below w.heap.size w w'))
  case atStart => exact ⟨(([] : List Int)), (3501), (0), (by first | rfl | (simp; done) | (simp [*]; done)), (by first | rfl | (simp; done) | (simp [*]; done)), H', ⟨Nat.le_refl _⟩, ⟨by first | exact Kd.R_nil _ _ _ _ _ | exact Kd.N_nil _ _ _ _ _ | exact Kd.V_nil _ _ _ _ _ | exact Kd.Q_nil _ _ _ _ _ | exact Kd.S_nil _ _ _ _ _⟩, ⟨by repeat (first | (with_reducible first | exact HB.out | apply below_alloc | apply pw_below_drewN | apply below_drew1) | exact HB.out)⟩⟩
  case round =>
    clear H'
    obtain ⟨x3_1, x4_1, x9_1, rfl, rfl, HA, HK1, HO_3, HB⟩ := hrel
    cases gk with
    | zero => exact absurd HA.out (by simp [groove_Places.l0])
    | succ k1 =>
      have H := HA.out
      clear HA
      simp only [groove_Places.l0] at H
      by_cases c2 : x9_1 < (l0.length : Int)
      · rw [if_pos c2] at H
        have c2b0 : decide (x9_1 < (l0.length : Int)) = true := decide_eq_true c2
        clear c2
        by_cases c3 : 0 ≤ x9_1
        · rw [if_pos c3] at H
          have c3b0 : decide (0 ≤ x9_1) = true := decide_eq_true c3
          clear c3
          by_cases c4 : x9_1 < (l0.length : Int)
          · rw [if_pos c4] at H
            have c4b0 : decide (x9_1 < (l0.length : Int)) = true := decide_eq_true c4
            clear c4
            by_cases c5 : x3_1.length < 17592186044416
            · rw [if_pos c5] at H
              have LMc5 := Aside0.mk c5
              clear c5
              obtain ⟨y266, hy266⟩ : ∃ y_ : List Int, y_ = (x3_1 ++ [x4_1]) := ⟨_, rfl⟩
              replace H : (groove_Places.l0 k1 y266 (wrap64 (x4_1 + (wrap64 ((wrap64 ((wrap64 ((wrap64 ((((rd_T53 l0 x9_1).f1).length : Int) + 1)) + 2)) + 120)) + 1)))) l0 (l0.length : Int) (wrap64 (x9_1 + 1))) = some r := by first | (rw [hy266]; with_reducible exact H) | (have H2_ := (Option.bind_some _ _).symm.trans H; rw [hy266]; with_reducible exact H2_) | (have H2_ := (Option.bind_some _ _).symm.trans H; with_reducible exact H2_) | with_reducible exact H | (rw [hy266]; exact H) | exact H
              have Ny266 := Aside0.mk hy266
              clear hy266
              have H' := Aside0.mk H
              clear H
              have p264 : 0 ≤ (x9_1 : Int) := of_decide_eq_true (by first | (with_reducible assumption) | assumption)
              have q264 : x9_1 < (l0.length : Int) := of_decide_eq_true (by first | (with_reducible assumption) | assumption)
              obtain ⟨ad264, A264_1, c264_1, e264, hx264_0, hx264_1, hl264_1, hi264_1⟩ := at_T53 HR0.out x9_1 p264 q264
              cases e264
              replace hx264_0 := (HB.out.cell (World.block_lt_of_cell? w _ hx264_0)).trans hx264_0
              replace hx264_1 := (HB.out.cell (World.block_lt_of_cell? w _ hx264_1)).trans hx264_1
              have HR264_1 := Aside0.mk hi264_1
              have HC264_1 := Aside0.mk hl264_1
              clear hi264_1 hl264_1
              replace p264 := eq_true p264
              replace q264 := eq_true q264
              go_wp2_with (first | ((with_reducible refine gate_dst (N := 6) rfl ?_); refine box_event ?hg (N := 6) ?hd (cs := #[.int .u8 0, .slice none 0 0]) (t := 53) ?hr ?_; (case hd => rfl); (case hg => rfl); (case hr => first | (go_simp; done) | (go_simp; rfl)); intro gb265 hg w6 hbox hb; have n0_ := Aside0.mk (Kd.R_below (by (with_reducible repeat (first | apply Kd.R_alloc | apply Kd.R_drewN | apply Kd.R_drew)); exact HO_3.out) hb); have n1_ := Aside0.mk (below_step (by repeat (first | (with_reducible first | exact HB.out | apply below_alloc | apply pw_below_drewN | apply below_drew1) | exact HB.out)) hb); have n2_ := Aside0.mk (hbox); have n3_ := Aside0.mk ((by rw [hg]; exact (below_size (by repeat (first | (with_reducible first | exact HB.out | apply below_alloc | apply pw_below_drewN | apply below_drew1) | exact HB.out))) : w.heap.size ≤ gb265)); have n4_ := Aside0.mk ((by rw [hg]; exact (below_size (by repeat (first | (with_reducible first | exact HB.out | apply below_alloc | apply pw_below_drewN | apply below_drew1) | exact HB.out))) : w.heap.size ≤ gb265)); clear HO_3; clear HB; have HO_3 := n0_; have HB := n1_; have BK265 := n2_; have GW265 := n3_; have GE265 := n4_; clear n0_ n1_ n2_ n3_ n4_; clear hb hbox hg; have hcz7_0 : w6.cell? ⟨gb265, 0, none⟩ = some (.int .u8 0) := (blk_cell BK265.out 0).trans rfl; have hcz7_1 : w6.cell? ⟨gb265, 1, none⟩ = some (.slice none 0 0) := (blk_cell BK265.out 1).trans rfl; have hfz7_0 := blk_frozen BK265.out 0; have hfz7_1 := blk_frozen BK265.out 1) | ((with_reducible refine gate_builtin (b := .append) (xs := #[.tmp 13, .tmp 15]) rfl ?_); at_builtin; refine Kd.R_append (Kd.int .i64) (w0 := w) w.heap.size rfl (.tmp 13) (.tmp 15) 50 3 (.int .i64 0) 8 rfl Try.underlying50 info3 rfl (by decide) (by omega) u3 x3_1 x4_1 [.int .i64 x4_1] (fun _ => True) (fun _ => False) rfl (by first | (go_simp; done) | (go_simp; rfl)) ?aP (fun _ hk => hk.elim) ?aF ?aO ?aB ?aS ?aL ?_; (case aP => exact rfl); (case aB => exact (by repeat (first | (with_reducible first | exact HB.out | apply below_alloc | apply pw_below_drewN | apply below_drew1 | refine below_set ?_ GE265.out) | exact HB.out))); (case aF => exact (fun _ _ => trivial)); (case aO => exact (by (with_reducible repeat (first | apply Kd.R_alloc | apply Kd.R_drewN | apply Kd.R_drew)); exact Kd.R_mono (Kd.R_far (p := ⟨gb265, 1, none⟩) (Kd.R_far (p := ⟨gb265, 0, none⟩) (Kd.R_types HO_3.out BK265.out (by decide)) (fun _ hk => hk.2) (.int .u8 ((rd_T53 l0 x9_1).f0))) (fun _ hk => hk.2) (.slice A264_1 ((rd_T53 l0 x9_1).f1).length c264_1)) (fun _ hk => trivial))); (case aS => exact (below_size (by repeat (first | (with_reducible first | exact HB.out | apply below_alloc | apply pw_below_drewN | apply below_drew1 | refine below_set ?_ GE265.out) | exact HB.out)))); (case aL => have := LMc5.out; omega); intro v267 w8 ho hb hg hat; rw [← Ny266.out] at ho; have n0_ := Aside0.mk (blk_grown (g := gb265) (o := .cells #[.int .u8 ((rd_T53 l0 x9_1).f0), .slice A264_1 ((rd_T53 l0 x9_1).f1).length c264_1] 53 (0, 0)) (by (with_reducible repeat (first | refine blk_drewN ?_ _ | refine blk_drew ?_ | refine blk_alloc ?_ _)); refine blk_put (cs := #[.int .u8 ((rd_T53 l0 x9_1).f0), .slice none 0 0]) ?_ 1 _ rfl; (with_reducible repeat (first | refine blk_drewN ?_ _ | refine blk_drew ?_ | refine blk_alloc ?_ _)); refine blk_put (cs := #[.int .u8 0, .slice none 0 0]) ?_ 0 _ rfl; (with_reducible repeat (first | refine blk_drewN ?_ _ | refine blk_drew ?_ | refine blk_alloc ?_ _)); exact BK265.out) hg (Kd.R_ne HO_3.out BK265.out (by decide))); have n1_ := Aside0.mk (hb); have n2_ := Aside0.mk (ho); clear BK265; clear HB; clear HO_3; have BK265 := n0_; have HB := n1_; have HO268 := n2_; clear n0_ n1_ n2_; clear ho hb hg hat; have hcz9_0 : w8.cell? ⟨gb265, 0, none⟩ = some (.int .u8 ((rd_T53 l0 x9_1).f0)) := (blk_cell BK265.out 0).trans rfl; have hcz9_1 : w8.cell? ⟨gb265, 1, none⟩ = some (.slice A264_1 ((rd_T53 l0 x9_1).f1).length c264_1) := (blk_cell BK265.out 1).trans rfl; have hfz9_0 := blk_frozen BK265.out 0; have hfz9_1 := blk_frozen BK265.out 1))
              go_roundg k1
              case measure => have := HK1.out; omega
              case rel => exact ⟨(y266), (wrap64 (x4_1 + (wrap64 ((wrap64 ((wrap64 ((wrap64 ((((rd_T53 l0 x9_1).f1).length : Int) + 1)) + 2)) + 120)) + 1)))), (wrap64 (x9_1 + 1)), (by first | rfl | (simp; done) | (simp [*]; done)), (by first | rfl | (simp; done) | (simp [*]; done)), H', ⟨by have := HK1.out; omega⟩, ⟨by (with_reducible repeat (first | apply Kd.R_alloc | apply Kd.R_drewN | apply Kd.R_drew)); exact HO268.out⟩, ⟨by repeat (first | (with_reducible first | exact HB.out | apply below_alloc | apply pw_below_drewN | apply below_drew1 | refine below_set ?_ GE265.out) | exact HB.out)⟩⟩
            · rw [if_neg c5] at H
              exact absurd H (by simp)
          · rw [if_neg c4] at H
            exact absurd H (by simp)
        · rw [if_neg c3] at H
          exact absurd H (by simp)
      · rw [if_neg c2] at H
        have c2b0 : decide (x9_1 < (l0.length : Int)) = false := decide_eq_false c2
        clear c2
        obtain rfl := Option.some.inj H
        go_wp2
        go_ret
        exact ⟨_, by first | rfl | (simp [errW_none, errW_some] <;> rfl) | (simp [*, errW_none, errW_some] <;> rfl), by (with_reducible repeat (first | apply Kd.R_alloc | apply Kd.R_drewN | apply Kd.R_drew)); exact HO_3.out, by repeat (first | (with_reducible first | exact HB.out | apply below_alloc | apply pw_below_drewN | apply below_drew1) | exact HB.out)⟩

end Go.Proofs.Ytgahcipgglkkhaa.PGrooveLays
