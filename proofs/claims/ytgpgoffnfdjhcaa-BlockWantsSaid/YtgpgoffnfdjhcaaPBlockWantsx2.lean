-- made by a program of this repo (wip/patch_print.py); not trusted: Lean checks it
import Derived.Test.YtgpgoffnfdjhcaaPBlockWantsx0
import Derived.Test.YtgpgoffnfdjhcaaPBlockWantsx1
namespace Go.Proofs.Ytgpgoffnfdjhcaa.PBlockWants
open Go.RowKit Go.Proofs.YtgpgoffnfdjhcaaW.PrintWords Go.Proofs.YtgpgoffnfdjhcaaW.PrintLast Go.Proofs.YtgpgoffnfdjhcaaW.PrintMore
attribute [local go_sem] max2_int min2_int max_two min_two max_three min_three max_four min_four   -- for this text's walks alone
set_option linter.unusedVariables false
set_option linter.unusedSimpArgs false

/-! ### kotatsuref01_Cut: function 9 -/
def kotatsuref01_Cut.l0 : Nat → Int → List Int → List Int → Int → Int → Option (List Int)
  | 0, _, _, _, _, _ => none
  | k + 1, x1, x5, x8, x9, x10 => if x10 < x9 then (if 0 ≤ x10 then (if x10 < (x8.length : Int) then (if x10 < x1 then (if x5.length < 140737488355328 then (kotatsuref01_Cut.l0 k x1 (x5 ++ [rd x8 x10]) x8 x9 (wrap64 (x10 + 1))) else (none)) else (kotatsuref01_Cut.l0 k x1 x5 x8 x9 (wrap64 (x10 + 1)))) else (none)) else (none)) else (some x5)
def kotatsuref01_Cut.f (k : Nat) (l0 : List Int) (a1 : Int) : Option (List Int) := kotatsuref01_Cut.l0 k a1 ([] : List Int) l0 (l0.length : Int) 0
theorem kotatsuref01_Cut.mono_l : ∀ k, (∀ y0 y1 y2 y3 y4, LeO (kotatsuref01_Cut.l0 k y0 y1 y2 y3 y4) (kotatsuref01_Cut.l0 (k + 1) y0 y1 y2 y3 y4))
  | 0 => fun _ _ _ _ _ r h => by simp [kotatsuref01_Cut.l0] at h
  | k + 1 => by
    have ih0 := kotatsuref01_Cut.mono_l k
    · intro y0 y1 y2 y3 y4
      unfold kotatsuref01_Cut.l0
      repeat' first
      | (with_reducible exact ih0 _ _ _ _ _)
      | (with_reducible exact LeO.refl _)
      | (with_reducible exact LeO.none _)
      | (with_reducible refine LeO.ite ?_ ?_)
      | (with_reducible refine LeO.bind ?_ (fun _ => ?_))
      | exact ih0 _ _ _ _ _
      | exact LeO.none _
      | refine LeO.ite ?_ ?_
      | refine LeO.bind ?_ (fun _ => ?_)
theorem kotatsuref01_Cut.mono : ∀ a0 a1 k, LeO (kotatsuref01_Cut.f k a0 a1) (kotatsuref01_Cut.f (k + 1) a0 a1) := by
  intro a0 a1 k
  have ih0 := kotatsuref01_Cut.mono_l k
  unfold kotatsuref01_Cut.f
  repeat' first
      | (with_reducible exact ih0 _ _ _ _ _)
      | (with_reducible exact LeO.refl _)
      | (with_reducible exact LeO.none _)
      | (with_reducible refine LeO.ite ?_ ?_)
      | (with_reducible refine LeO.bind ?_ (fun _ => ?_))
      | exact ih0 _ _ _ _ _
      | exact LeO.none _
      | refine LeO.ite ?_ ?_
      | refine LeO.bind ?_ (fun _ => ?_)
set_option maxHeartbeats 8000000 in
set_option maxRecDepth 100000 in
theorem kotatsuref01_Cut.callsR (k : Nat) (A0 : Option Addr) (c0 : Nat) (l0 : List Int) (a1 : Int) (r : List Int) (w : World) (hr0 : Kd.C (Kd.int .u8) w A0 l0.length l0) (hc0 : l0.length ≤ c0) (h : kotatsuref01_Cut.f k l0 a1 = some r) :
    Calls Try.prog 9 #[.slice A0 l0.length c0, .int .i64 a1] w fun e w' => ∃ v0_ : Value, e = .returned (v0_) ∧ Kd.R (Kd.int .u8) 5 w' w.heap.size (fun _ => True) v0_ r ∧ Below w.heap.size w w' := by
  have HR0 := Aside0.mk hr0
  have HC0 := Aside0.mk hc0
  clear hr0 hc0
  have HB := Aside0.mk (Below.refl w.heap.size w)
  have H : (kotatsuref01_Cut.l0 k a1 ([] : List Int) l0 (l0.length : Int) 0) = some r := h
  clear h
  have H' := Aside0.mk H
  clear H
  go_enter Try.func9, Try.ntmps9
  go_wp2
  go_loopg [5, 10] k (fun kq v5 v10 w' => ∃ (x5_1 : List Int) (x10_1 : Int), v10 = .int .i64 x10_1 ∧ Aside0 (kotatsuref01_Cut.l0 kq a1 x5_1 l0 (l0.length : Int) x10_1 = some r) ∧ Aside0 (kq ≤ k) ∧ Aside0 (Kd.R (Kd.int .u8) 5 w' w.heap.size (fun _ => True) v5 x5_1) ∧ Aside0 (Below w.heap.size w w'))
  case atStart => exact ⟨(([] : List Int)), (0), (by first | rfl | (simp; done) | (simp [*]; done)), H', ⟨Nat.le_refl _⟩, ⟨by first | exact Kd.R_nil _ _ _ _ _ | exact Kd.N_nil _ _ _ _ _ | exact Kd.V_nil _ _ _ _ _ | exact Kd.Q_nil _ _ _ _ _ | exact Kd.S_nil _ _ _ _ _⟩, ⟨by repeat (first | (with_reducible first | exact HB.out | apply below_alloc | apply pw_below_drewN | apply below_drew1) | exact HB.out)⟩⟩
  case round =>
    clear H'
    try clear p2
    obtain ⟨x5_1, x10_1, rfl, HA, HK1, HO_5, HB⟩ := hrel
    cases gk with
    | zero => exact absurd HA.out (by simp [kotatsuref01_Cut.l0])
    | succ k1 =>
      have H := HA.out
      clear HA
      simp only [kotatsuref01_Cut.l0] at H
      by_cases c3 : x10_1 < (l0.length : Int)
      · rw [if_pos c3] at H
        have c3b0 : decide (x10_1 < (l0.length : Int)) = true := decide_eq_true c3
        clear c3
        by_cases c4 : 0 ≤ x10_1
        · rw [if_pos c4] at H
          have c4b0 : decide (0 ≤ x10_1) = true := decide_eq_true c4
          clear c4
          by_cases c5 : x10_1 < (l0.length : Int)
          · rw [if_pos c5] at H
            have c5b0 : decide (x10_1 < (l0.length : Int)) = true := decide_eq_true c5
            clear c5
            by_cases c6 : x10_1 < a1
            · rw [if_pos c6] at H
              have c6b0 : decide (x10_1 < a1) = true := decide_eq_true c6
              clear c6
              by_cases c7 : x5_1.length < 140737488355328
              · rw [if_pos c7] at H
                have LMc7 := Aside0.mk c7
                clear c7
                obtain ⟨y126, hy126⟩ : ∃ y_ : List Int, y_ = (x5_1 ++ [rd l0 x10_1]) := ⟨_, rfl⟩
                replace H : (kotatsuref01_Cut.l0 k1 a1 y126 l0 (l0.length : Int) (wrap64 (x10_1 + 1))) = some r := by first | (rw [hy126]; with_reducible exact H) | (have H2_ := (Option.bind_some _ _).symm.trans H; rw [hy126]; with_reducible exact H2_) | (have H2_ := (Option.bind_some _ _).symm.trans H; with_reducible exact H2_) | with_reducible exact H | (rw [hy126]; exact H) | exact H
                have Ny126 := Aside0.mk hy126
                clear hy126
                have H' := Aside0.mk H
                clear H
                have p125 : 0 ≤ (x10_1 : Int) := of_decide_eq_true (by first | (with_reducible assumption) | assumption)
                have q125 : x10_1 < (l0.length : Int) := of_decide_eq_true (by first | (with_reducible assumption) | assumption)
                obtain ⟨ad125, e125, hx125_0⟩ := Kd.at_int HR0.out x10_1 p125 q125
                cases e125
                replace hx125_0 := (HB.out.cell (World.block_lt_of_cell? w _ hx125_0)).trans hx125_0
                replace p125 := eq_true p125
                replace q125 := eq_true q125
                go_wp2_with (first | ((with_reducible refine gate_builtin (b := .append) (xs := #[.tmp 18, .tmp 20]) rfl ?_); at_builtin; refine Kd.R_append (Kd.int .u8) (w0 := w) w.heap.size rfl (.tmp 18) (.tmp 20) 22 5 (.int .u8 0) 1 rfl Try.underlying22 info5 rfl (by decide) (by omega) u5 x5_1 (rd l0 x10_1) [.int .u8 (rd l0 x10_1)] (fun _ => True) (fun _ => False) rfl rfl ?aP (fun _ hk => hk.elim) ?aF ?aO ?aB ?aS ?aL ?_; (case aP => exact rfl); (case aB => exact (by repeat (first | (with_reducible first | exact HB.out | apply below_alloc | apply pw_below_drewN | apply below_drew1) | exact HB.out))); (case aF => exact (fun _ _ => trivial)); (case aO => exact (by (with_reducible repeat (first | apply Kd.R_alloc | apply Kd.R_drewN | apply Kd.R_drew)); exact HO_5.out)); (case aS => exact (below_size (by repeat (first | (with_reducible first | exact HB.out | apply below_alloc | apply pw_below_drewN | apply below_drew1) | exact HB.out)))); (case aL => have := LMc7.out; omega); intro v127 w8 ho hb hg hat; rw [← Ny126.out] at ho; have n0_ := Aside0.mk (hb); have n1_ := Aside0.mk (ho); clear HB; clear HO_5; have HB := n0_; have HO128 := n1_; clear n0_ n1_; clear ho hb hg hat))
                go_roundg k1
                case measure => have := HK1.out; omega
                case rel => exact ⟨(y126), (wrap64 (x10_1 + 1)), (by first | rfl | (simp; done) | (simp [*]; done)), H', ⟨by have := HK1.out; omega⟩, ⟨by (with_reducible repeat (first | apply Kd.R_alloc | apply Kd.R_drewN | apply Kd.R_drew)); exact HO128.out⟩, ⟨by repeat (first | (with_reducible first | exact HB.out | apply below_alloc | apply pw_below_drewN | apply below_drew1) | exact HB.out)⟩⟩
              · rw [if_neg c7] at H
                exact absurd H (by simp)
            · rw [if_neg c6] at H
              have c6b0 : decide (x10_1 < a1) = false := decide_eq_false c6
              clear c6
              have H' := Aside0.mk H
              clear H
              have p125 : 0 ≤ (x10_1 : Int) := of_decide_eq_true (by first | (with_reducible assumption) | assumption)
              have q125 : x10_1 < (l0.length : Int) := of_decide_eq_true (by first | (with_reducible assumption) | assumption)
              obtain ⟨ad125, e125, hx125_0⟩ := Kd.at_int HR0.out x10_1 p125 q125
              cases e125
              replace hx125_0 := (HB.out.cell (World.block_lt_of_cell? w _ hx125_0)).trans hx125_0
              replace p125 := eq_true p125
              replace q125 := eq_true q125
              go_wp2
              go_roundg k1
              case measure => have := HK1.out; omega
              case rel => exact ⟨(x5_1), (wrap64 (x10_1 + 1)), (by first | rfl | (simp; done) | (simp [*]; done)), H', ⟨by have := HK1.out; omega⟩, ⟨by (with_reducible repeat (first | apply Kd.R_alloc | apply Kd.R_drewN | apply Kd.R_drew)); exact HO_5.out⟩, ⟨by repeat (first | (with_reducible first | exact HB.out | apply below_alloc | apply pw_below_drewN | apply below_drew1) | exact HB.out)⟩⟩
          · rw [if_neg c5] at H
            exact absurd H (by simp)
        · rw [if_neg c4] at H
          exact absurd H (by simp)
      · rw [if_neg c3] at H
        have c3b0 : decide (x10_1 < (l0.length : Int)) = false := decide_eq_false c3
        clear c3
        obtain rfl := Option.some.inj H
        go_wp2
        go_ret
        exact ⟨_, by first | rfl | (simp [errW_none, errW_some] <;> rfl) | (simp [*, errW_none, errW_some] <;> rfl), by (with_reducible repeat (first | apply Kd.R_alloc | apply Kd.R_drewN | apply Kd.R_drew)); exact HO_5.out, by repeat (first | (with_reducible first | exact HB.out | apply below_alloc | apply pw_below_drewN | apply below_drew1) | exact HB.out)⟩
theorem kotatsuref01_Cut.calls (k : Nat) (A0 : Option Addr) (c0 : Nat) (l0 : List Int) (a1 : Int) (r : List Int) (w : World) (hr0 : Kd.C (Kd.int .u8) w A0 l0.length l0) (hc0 : l0.length ≤ c0) (h : kotatsuref01_Cut.f k l0 a1 = some r) :
    Calls Try.prog 9 #[.slice A0 l0.length c0, .int .i64 a1] w fun e w' => ∃ v0_ : Value, e = .returned (v0_) ∧ Kd.V (Kd.int .u8) 5 w' w.heap.size (fun k_ => (w.heap.size ≤ k_)) v0_ r ∧ Below w.heap.size w w' := by
  refine (kotatsuref01_Cut.callsR k A0 c0 l0 a1 r w hr0 hc0 h).mono ?_
  rintro e w' ⟨v0_, rfl, ho, hb⟩
  exact ⟨v0_, rfl, Kd.V_mono (Kd.N_V (Kd.R_N (Kd.R_bound ho))) (fun _ hk => hk.2.1), hb⟩

/-! ### kotatsuref01_Text: function 22 -/
def kotatsuref01_Text.f (a0 : ByteArray) (a1 : Int) : Option (ByteArray) := if 0 ≤ (mn (a0.size : Int) a1) then (if (mn (a0.size : Int) a1) ≤ (a0.size : Int) then (some (a0.extract 0 ((mn (a0.size : Int) a1) : Int).toNat)) else (none)) else (none)
set_option maxHeartbeats 8000000 in
set_option maxRecDepth 100000 in
theorem kotatsuref01_Text.calls (a0 : ByteArray) (a1 : Int) (r : ByteArray) (w : World) (h : kotatsuref01_Text.f a0 a1 = some r) :
    Calls Try.prog 22 #[.string a0, .int .i64 a1] w fun e w' => e = .returned (.string r) ∧ Below w.heap.size w w' := by
  have HB := Aside0.mk (Below.refl w.heap.size w)
  have H : (if 0 ≤ (mn (a0.size : Int) a1) then (if (mn (a0.size : Int) a1) ≤ (a0.size : Int) then (some (a0.extract 0 ((mn (a0.size : Int) a1) : Int).toNat)) else (none)) else (none)) = some r := h
  clear h
  obtain ⟨ji3, hji3⟩ : ∃ j_ : Int, (mn (a0.size : Int) a1) = j_ := ⟨_, rfl⟩
  replace H : (if 0 ≤ (ji3) then (if (ji3) ≤ (a0.size : Int) then (some (a0.extract 0 ((ji3) : Int).toNat)) else (none)) else (none)) = some r := by first | (rw [hji3] at H; exact H) | (simp only [hji3] at H ⊢; exact H)
  have hji3_ : (if a1 < (a0.size : Int) then a1 else (a0.size : Int)) = ji3 := hji3
  by_cases c4 : 0 ≤ (ji3)
  · rw [if_pos c4] at H
    have c4b0 := eq_true c4
    have c4b1 : decide (0 ≤ (ji3)) = true := decide_eq_true c4
    clear c4
    by_cases c5 : (ji3) ≤ (a0.size : Int)
    · rw [if_pos c5] at H
      have c5b0 := eq_true c5
      have c5b1 : decide ((ji3) ≤ (a0.size : Int)) = true := decide_eq_true c5
      clear c5
      obtain rfl := Option.some.inj H
      go_enter Try.func22, Try.ntmps22
      go_wp2
      go_ret
      exact ⟨by first | rfl | (simp [errW_none, errW_some] <;> rfl) | (simp only [← hji3]; first | rfl | (simp [errW_none, errW_some] <;> rfl)) | (simp [*, errW_none, errW_some] <;> rfl), by repeat (first | (with_reducible first | exact HB.out | apply below_alloc | apply pw_below_drewN | apply below_drew1) | exact HB.out)⟩
    · rw [if_neg c5] at H
      exact absurd H (by simp)
  · rw [if_neg c4] at H
    exact absurd H (by simp)

/-! ### bytes_Clone: function 29, by hand -/
def bytes_Clone.f (l0 : List Int) : Option (List Int) := if l0.length ≤ 140737488355328 then some l0 else none
theorem bytes_Clone.calls (A0 : Option Addr) (c0 : Nat) (l0 : List Int) (r : List Int) (w : World) (hr0 : Kd.C (Kd.int .u8) w A0 l0.length l0) (hc0 : l0.length ≤ c0) (h : bytes_Clone.f l0 = some r) :
    Calls Try.prog 29 #[.slice A0 l0.length c0] w fun e w' => ∃ v0_ : Value, e = .returned (v0_) ∧ Kd.V (Kd.int .u8) 5 w' w.heap.size (fun k_ => (w.heap.size ≤ k_)) v0_ r ∧ Below w.heap.size w w' := by
  unfold bytes_Clone.f at h
  by_cases hl : l0.length ≤ 140737488355328
  · rw [if_pos hl] at h
    obtain rfl := Option.some.inj h
    cases A0 with
    | none =>
      have h0 : l0 = [] := by
        rcases Nat.eq_zero_or_pos l0.length with hz | hp
        · exact List.length_eq_zero_iff.1 hz
        · obtain ⟨ad, he, _⟩ := Kd.at_int hr0 0 (by omega) (by omega)
          cases he
      subst h0
      refine (Try.bytes_Clone_nil _ c0 w).mono ?_
      rintro e w' ⟨rfl, rfl⟩
      exact ⟨_, rfl, Kd.V_nil _ _ _ _ _, Below.refl _ _⟩
    | some a =>
      refine (Try.bytes_Clone_at a l0.length c0 l0 w rfl hl ?_).mono ?_
      · intro i hi
        obtain ⟨ad, he, hc⟩ := Kd.at_int hr0 (i : Int) (by omega) (by omega)
        cases he
        exact hc
      · rintro e w' ⟨v', rfl, hown, _, hb⟩
        exact ⟨v', rfl, Kd.V_mono (Kd.N_V (Kd.R_N (Kd.R_bound (Kd.R_of_own (enc := Value.int .u8) hown (fun _ _ => trivial))))) (fun _ hk => hk.2.1), hb⟩
  · rw [if_neg hl] at h
    cases h

/-! ### block_File: function 23, by hand -/
def block_File.head (a0 a1 : Int) (a2 : ByteArray) (a3 a4 n : Int) : List Int := [a0, a1] ++ H.spl (List.replicate 8 0) 0 ((bytesOf a2).take 8) ++ [a3 % 256, a3 / 256 % 256, n % 256, n / 256, a4]
def block_File.f (a0 a1 : Int) (a2 : ByteArray) (a3 a4 : Int) (l5 : List Int) : Option (List (S43)) :=
  if (l5.length : Int) > 65535 then some [] else some [⟨3, block_File.head a0 a1 a2 a3 a4 (l5.length : Int)⟩, ⟨4, l5⟩]
theorem block_File.spl_at (ys : List Int) (hl : ys.length ≤ 8) (a0 a1 a10 a11 a12 a13 a14 : Int) :
    (((((H.spl ((((List.replicate 15 0).set 0 a0)).set 1 a1) 2 ys).set 10 a10).set 11 a11).set 12 a12).set 13 a13).set 14 a14 = [a0, a1] ++ H.spl (List.replicate 8 0) 0 ys ++ [a10, a11, a12, a13, a14] := by
  rcases (show ys.length = 0 ∨ ys.length = 1 ∨ ys.length = 2 ∨ ys.length = 3 ∨ ys.length = 4 ∨ ys.length = 5 ∨ ys.length = 6 ∨ ys.length = 7 ∨ ys.length = 8 by omega) with h | h | h | h | h | h | h | h | h
  all_goals
    rcases ys with _ | ⟨y0, _ | ⟨y1, _ | ⟨y2, _ | ⟨y3, _ | ⟨y4, _ | ⟨y5, _ | ⟨y6, _ | ⟨y7, _ | ⟨y8, ys⟩⟩⟩⟩⟩⟩⟩⟩⟩ <;> first | rfl | (simp at h)
set_option maxHeartbeats 400000 in
set_option maxRecDepth 100000 in
theorem block_File.callsR (a0 a1 : Int) (a2 : ByteArray) (a3 a4 : Int) (A5 : Option Addr) (c5 : Nat) (l5 : List Int) (r : List (S43)) (w : World) (hr5 : Kd.C (Kd.int .u8) w A5 l5.length l5) (hc5 : l5.length ≤ c5) (h : block_File.f a0 a1 a2 a3 a4 l5 = some r) :
    Calls Try.prog 23 #[.int .u8 a0, .int .u8 a1, .string a2, .int .u16 a3, .int .u8 a4, .slice A5 l5.length c5] w fun e w' => ∃ v0_ : Value, e = .returned (v0_) ∧ Kd.N k43 43 w' w.heap.size (fun k_ => (w.heap.size ≤ k_)) v0_ r ∧ Below w.heap.size w w' := by
  unfold block_File.f at h
  by_cases hl : (l5.length : Int) > 65535
  · rw [if_pos hl] at h
    obtain rfl := Option.some.inj h
    have t1 : decide ((65535 : Int) < (l5.length : Int)) = true := decide_eq_true hl
    clear hr5 hc5 h
    go_enter Try.func23, Try.ntmps23
    go_wp2
    go_ret
    exact ⟨_, rfl, Kd.N_nil _ _ _ _ _, Below.refl _ _⟩
  · rw [if_neg hl] at h
    obtain rfl := Option.some.inj h
    have t1 : decide ((65535 : Int) < (l5.length : Int)) = false := decide_eq_false hl
    have HR := Aside0.mk hr5
    have HC := Aside0.mk hc5
    have HL := Aside0.mk hl
    have hl2 : (l5.length : Int) ≤ 65535 := by omega
    clear hr5 hc5 h hl
    go_enter Try.func23, Try.ntmps23
    have HSZ5 := Aside0.mk (show (Try.prog.info? 5).map (·.size) = some 1 by kernel_rfl)
    go_wp2_with (first
      | ((with_reducible refine gate_dst (N := 17) rfl ?_); refine H.makeRow rfl 22 5 _ _ rfl 15 rfl rfl Try.underlying22 info5 (by decide) ?_; intro w1 hrow hb hsz; have ROW := Aside0.mk hrow; have HB := Aside0.mk hb; have HSZ := Aside0.mk hsz; have c0 := hrow.cell 0 (by decide); have c1 := hrow.cell 1 (by decide); have f0 := hrow.frozen 0; have f1 := hrow.frozen 1; clear hrow hb hsz)
      | ((with_reducible refine gate_dst (N := 27) rfl ?_); have HROWX := (ROW.out.set_ 0 a0).set_ 1 a1; have HBX : Below w.heap.size w ((w1.setCell ⟨w.heap.size, 0, none⟩ (.int .u8 a0)).setCell ⟨w.heap.size, 1, none⟩ (.int .u8 a1)) := (HB.out.setCell (p := ⟨w.heap.size, 0, none⟩) (Nat.le_refl _) _).setCell (p := ⟨w.heap.size, 1, none⟩) (Nat.le_refl _) _; refine H.copyStr rfl (.tmp 25) (.tmp 26) 22 9 rfl 5 Try.underlying22 HSZ5.out w.heap.size 2 8 13 a2 rfl rfl 5 _ HROWX (by simp) w.heap.size w HBX (Nat.le_refl _) ?_; clear HROWX HBX; intro w2 hrow hb hk hz; have HSZ2 := Aside0.mk (show w2.heap.size = w.heap.size + 1 by rw [hz]; simp [HSZ.out]); have ROW2 := Aside0.mk hrow; have HB2 := Aside0.mk hb; have hsl := H.spl_length (((List.replicate 15 0).set 0 a0).set 1 a1) ((bytesOf a2).take 8) 2 (by simp; omega); rw [show (((List.replicate 15 (0 : Int)).set 0 a0).set 1 a1).length = 15 by simp] at hsl; have d10 := hrow.cell 10 (by rw [hsl]; decide); have d11 := hrow.cell 11 (by rw [hsl]; decide); have d12 := hrow.cell 12 (by rw [hsl]; decide); have d13 := hrow.cell 13 (by rw [hsl]; decide); have d14 := hrow.cell 14 (by rw [hsl]; decide); have e10 := hrow.frozen 10; have e11 := hrow.frozen 11; have e12 := hrow.frozen 12; have e13 := hrow.frozen 13; have e14 := hrow.frozen 14; clear hrow hb hk hz hsl; clear c0 c1 f0 f1; generalize (H.spl (((List.replicate 15 0).set 0 a0).set 1 a1) 2 ((bytesOf a2).take 8)).getD 10 0 = x10 at *; generalize (H.spl (((List.replicate 15 0).set 0 a0).set 1 a1) 2 ((bytesOf a2).take 8)).getD 11 0 = x11 at *; generalize (H.spl (((List.replicate 15 0).set 0 a0).set 1 a1) 2 ((bytesOf a2).take 8)).getD 12 0 = x12 at *; generalize (H.spl (((List.replicate 15 0).set 0 a0).set 1 a1) 2 ((bytesOf a2).take 8)).getD 13 0 = x13 at *; generalize (H.spl (((List.replicate 15 0).set 0 a0).set 1 a1) 2 ((bytesOf a2).take 8)).getD 14 0 = x14 at *))
    have HT := Aside0.mk (block_File.spl_at ((bytesOf a2).take 8) (List.length_take_le _ _) a0 a1 (a3 % 256) (a3 / 256 % 256) ((l5.length : Int) % 256) ((l5.length : Int) / 256) a4)
    have ROW6 := Aside0.mk (((((ROW2.out.set_ 10 (a3 % 256)).set_ 11 (a3 / 256 % 256)).set_ 12 ((l5.length : Int) % 256)).set_ 13 ((l5.length : Int) / 256)).set_ 14 a4)
    rw [HT.out] at ROW6
    have HB6 := Aside0.mk (((((HB2.out.setCell (p := ⟨w.heap.size, 10, none⟩) (Nat.le_refl _) (.int .u8 (a3 % 256))).setCell (p := ⟨w.heap.size, 11, none⟩) (Nat.le_refl _) (.int .u8 (a3 / 256 % 256))).setCell (p := ⟨w.heap.size, 12, none⟩) (Nat.le_refl _) (.int .u8 ((l5.length : Int) % 256))).setCell (p := ⟨w.heap.size, 13, none⟩) (Nat.le_refl _) (.int .u8 ((l5.length : Int) / 256))).setCell (p := ⟨w.heap.size, 14, none⟩) (Nat.le_refl _) (.int .u8 a4))
    refine (bytes_Clone.calls A5 c5 l5 l5 _ (Kd.C_below HR.out HB6.out) HC.out (by unfold bytes_Clone.f; rw [if_pos (by omega)])).mono ?_
    rintro e w3 ⟨v3, rfl, ho, hb⟩
    have ROW7 := Aside0.mk (ROW6.out.below hb)
    have HB7 := Aside0.mk (HB6.out.trans (hb.mono (below_size HB6.out)))
    have HO := Aside0.mk (Kd.V_mono (ok' := fun k => w.heap.size ≤ k) ho (fun k hk => Nat.le_trans (below_size HB6.out) hk))
    clear ho hb ROW6 HB6 HT ROW2 HB2 ROW HB d10 d11 d12 d13 d14 e10 e11 e12 e13 e14
    obtain ⟨A3, c3, e3⟩ := Kd.V_slice HO.out
    subst e3
    have hhl : (block_File.head a0 a1 a2 a3 a4 (l5.length : Int)).length = 15 := by unfold block_File.head; simp [H.spl]; omega
    have HF1 := Aside0.mk (show Kd.F (Kd.int .u8) w3 (fun k => w.heap.size ≤ k) (some ⟨w.heap.size, 0, none⟩) (block_File.head a0 a1 a2 a3 a4 (l5.length : Int)).length (block_File.head a0 a1 a2 a3 a4 (l5.length : Int)) from Kd.F_mono (Kd.V_F (ROW7.out.V 0 (by rw [show ([a0, a1] ++ H.spl (List.replicate 8 0) 0 ((bytesOf a2).take 8) ++ [a3 % 256, a3 / 256 % 256, (l5.length : Int) % 256, (l5.length : Int) / 256, a4]).length = 15 from hhl]; decide))) (fun k hk => Nat.le_of_eq hk.symm))
    have HHL := Aside0.mk hhl
    clear ROW7 hhl
    have hrep := ((Reps.none (Kd.FK k43 w3 (fun k => w.heap.size ≤ k)) k43.sz).snoc (p := (⟨3, block_File.head a0 a1 a2 a3 a4 (l5.length : Int)⟩ : S43)) (k43_mkF w3 _ (⟨3, block_File.head a0 a1 a2 a3 a4 (l5.length : Int)⟩ : S43) (Nat.le_of_eq HHL.out) HF1.out) rfl).snoc (p := (⟨4, l5⟩ : S43)) (k43_mkF w3 _ (⟨4, l5⟩ : S43) (Kd.V_reads' HO.out).2.1 (Kd.V_F HO.out)) rfl
    simp only [List.nil_append, List.cons_append] at hrep
    rw [HHL.out] at hrep
    have HREP := Aside0.mk hrep
    clear hrep
    go_wp2
    go_ret
    exact ⟨_, rfl, H.litN k43 w.heap.size 43 HREP.out (fun _ h => h) (below_size HB7.out) (below_size HB7.out) (by simp), below_alloc HB7.out _⟩

theorem block_File.calls (a0 a1 : Int) (a2 : ByteArray) (a3 a4 : Int) (A5 : Option Addr) (c5 : Nat) (l5 : List Int) (r : List (S43)) (w : World) (hr5 : Kd.C (Kd.int .u8) w A5 l5.length l5) (hc5 : l5.length ≤ c5) (h : block_File.f a0 a1 a2 a3 a4 l5 = some r) :
    Calls Try.prog 23 #[.int .u8 a0, .int .u8 a1, .string a2, .int .u16 a3, .int .u8 a4, .slice A5 l5.length c5] w fun e w' => ∃ v0_ : Value, e = .returned (v0_) ∧ Kd.V k43 43 w' w.heap.size (fun k_ => (w.heap.size ≤ k_)) v0_ r ∧ Below w.heap.size w w' := by
  refine (block_File.callsR a0 a1 a2 a3 a4 A5 c5 l5 r w hr5 hc5 h).mono ?_
  rintro e w' ⟨v0_, rfl, ho, hb⟩
  exact ⟨v0_, rfl, Kd.N_V ho, hb⟩

/-! ### kotatsulaw05_made: function 19 -/
def kotatsulaw05_made.l0 : Nat → ByteArray → Int → Int → List (List (S43)) → List (S48) → Int → Int → Option ((List (S43)))
  | 0, _, _, _, _, _, _, _ => none
  | k + 1, x0, x1, x3, x9, x13, x14, x15 => if x15 < x14 then (if 0 ≤ x15 then (if x15 < (x13.length : Int) then (if x15 < 8 then ((kotatsuref01_Text.f ((rd_T48 x13 x15).f3) 20).bind fun t138 => ((kotatsuref01_Cut.f k ((rd_T48 x13 x15).f5) 300).bind fun t139 => ((block_File.f ((rd_T48 x13 x15).f0) ((rd_T48 x13 x15).f1) t138 ((rd_T48 x13 x15).f4) ((rd_T48 x13 x15).f2) t139).bind fun t142 => (if x9.length < 5864062014805 then (kotatsulaw05_made.l0 k x0 x1 x3 (x9 ++ [t142]) x13 x14 (wrap64 (x15 + 1))) else (none))))) else (kotatsulaw05_made.l0 k x0 x1 x3 x9 x13 x14 (wrap64 (x15 + 1)))) else (none)) else (none)) else ((kotatsuref01_Text.f x0 20).bind fun t129 => ((block_Disk.f t129 x1 x9).bind fun t130 => (if 0 ≤ (mx 0 (wrap64 ((t130.length : Int) - (wrap64 (Int.tmod x3 5))))) then (if (mx 0 (wrap64 ((t130.length : Int) - (wrap64 (Int.tmod x3 5))))) ≤ (t130.length : Int) then (some (t130.take ((mx 0 (wrap64 ((t130.length : Int) - (wrap64 (Int.tmod x3 5))))) : Int).toNat)) else (none)) else (none))))
def kotatsulaw05_made.f (k : Nat) (a0 : ByteArray) (a1 : Int) (l2 : List (S48)) (a3 : Int) : Option ((List (S43))) := kotatsulaw05_made.l0 k a0 a1 a3 ([] : List (List (S43))) l2 (l2.length : Int) 0
theorem kotatsulaw05_made.mono_l : ∀ k, (∀ y0 y1 y2 y3 y4 y5 y6, LeO (kotatsulaw05_made.l0 k y0 y1 y2 y3 y4 y5 y6) (kotatsulaw05_made.l0 (k + 1) y0 y1 y2 y3 y4 y5 y6))
  | 0 => fun _ _ _ _ _ _ _ r h => by simp [kotatsulaw05_made.l0] at h
  | k + 1 => by
    have ih0 := kotatsulaw05_made.mono_l k
    · intro y0 y1 y2 y3 y4 y5 y6
      unfold kotatsulaw05_made.l0
      repeat' first
      | (with_reducible exact ih0 _ _ _ _ _ _ _)
      | (with_reducible exact kotatsuref01_Cut.mono _ _ _)
      | (with_reducible exact LeO.refl _)
      | (with_reducible exact LeO.none _)
      | (with_reducible refine LeO.ite ?_ ?_)
      | (with_reducible refine LeO.bind ?_ (fun _ => ?_))
      | exact ih0 _ _ _ _ _ _ _
      | exact kotatsuref01_Cut.mono _ _ _
      | exact LeO.none _
      | refine LeO.ite ?_ ?_
      | refine LeO.bind ?_ (fun _ => ?_)
theorem kotatsulaw05_made.mono : ∀ a0 a1 a2 a3 k, LeO (kotatsulaw05_made.f k a0 a1 a2 a3) (kotatsulaw05_made.f (k + 1) a0 a1 a2 a3) := by
  intro a0 a1 a2 a3 k
  have ih0 := kotatsulaw05_made.mono_l k
  unfold kotatsulaw05_made.f
  repeat' first
      | (with_reducible exact ih0 _ _ _ _ _ _ _)
      | (with_reducible exact kotatsuref01_Cut.mono _ _ _)
      | (with_reducible exact LeO.refl _)
      | (with_reducible exact LeO.none _)
      | (with_reducible refine LeO.ite ?_ ?_)
      | (with_reducible refine LeO.bind ?_ (fun _ => ?_))
      | exact ih0 _ _ _ _ _ _ _
      | exact kotatsuref01_Cut.mono _ _ _
      | exact LeO.none _
      | refine LeO.ite ?_ ?_
      | refine LeO.bind ?_ (fun _ => ?_)
def kotatsulaw05_made.T6 : Bool × List (List Nat × List Nat) := (true, [([], []), ([], []), ([1], [1]), ([], []), ([3], [3]), ([], []), ([5], [5]), ([6], [6]), ([], []), ([8], [8]), ([], []), ([10], [10]), ([], []), ([12], [12]), ([13, 7], [13]), ([2, 4, 7, 9, 11, 14, 14], [2, 4, 7, 9, 11, 14]), ([15], [15]), ([0, 16, 15], [0, 16]), ([17, 17, 0, 1, 2, 3, 4, 5, 6, 7, 8, 9, 10, 11, 12, 13, 14, 15, 16, 17], [0, 17])])
def kotatsulaw05_made.B6 : List Nat := [0, 0, 2, 0, 8, 0, 32, 96, 0, 256, 0, 1024, 0, 4096, 12512, 32766, 65534, 131071, 262143]
theorem kotatsulaw05_made.tab6 : rtab .any (opsOf Try.f19 6) = kotatsulaw05_made.T6 := by kernel_rfl
theorem kotatsulaw05_made.bits6 : waitsOk kotatsulaw05_made.T6.2 kotatsulaw05_made.B6 = true := by kernel_rfl
set_option maxHeartbeats 8000000 in
set_option maxRecDepth 100000 in
theorem kotatsulaw05_made.calls (k : Nat) (a0 : ByteArray) (a1 : Int) (A2 : Option Addr) (c2 : Nat) (l2 : List (S48)) (a3 : Int) (r : List (S43)) (w : World) (hr2 : Kd.C k48 w A2 l2.length l2) (hc2 : l2.length ≤ c2) (h : kotatsulaw05_made.f k a0 a1 l2 a3 = some r) :
    Calls Try.prog 19 #[.string a0, .int .u8 a1, .slice A2 l2.length c2, .int .u8 a3] w fun e w' => ∃ v0_ : Value, e = .returned (v0_) ∧ Kd.N k43 43 w' w.heap.size (fun k_ => (w.heap.size ≤ k_)) v0_ r ∧ Below w.heap.size w w' := by
  have hu48 := Try.underlying48
  have HR2 := Aside0.mk hr2
  have HC2 := Aside0.mk hc2
  clear hr2 hc2
  have HB := Aside0.mk (Below.refl w.heap.size w)
  have H : (kotatsulaw05_made.l0 k a0 a1 a3 ([] : List (List (S43))) l2 (l2.length : Int) 0) = some r := h
  clear h
  have H' := Aside0.mk H
  clear H
  go_enter Try.func19, Try.ntmps19
  go_wp2
  go_loopg [9, 15] k (fun kq v9 v15 w' => ∃ (x9_1 : List (List (S43))) (x15_1 : Int), v15 = .int .i64 x15_1 ∧ Aside0 (kotatsulaw05_made.l0 kq a0 a1 a3 x9_1 l2 (l2.length : Int) x15_1 = some r) ∧ Aside0 (kq ≤ k) ∧ Aside0 (Kd.N (Kd.slice 43 k43) 29 w' w.heap.size (fun k_ => (w.heap.size ≤ k_)) v9 x9_1) ∧ Aside0 (Below w.heap.size w w'))
  case atStart => exact ⟨(([] : List (List (S43)))), (0), (by first | rfl | (simp; done) | (simp [*]; done)), H', ⟨Nat.le_refl _⟩, ⟨by first | exact Kd.R_nil _ _ _ _ _ | exact Kd.N_nil _ _ _ _ _ | exact Kd.V_nil _ _ _ _ _ | exact Kd.Q_nil _ _ _ _ _ | exact Kd.S_nil _ _ _ _ _⟩, ⟨by repeat (first | (with_reducible first | exact HB.out | apply below_alloc | apply pw_below_drewN | apply below_drew1) | exact HB.out)⟩⟩
  case round =>
    clear H'
    try clear c1
    try clear c2
    try clear p2
    obtain ⟨x9_1, x15_1, rfl, HA, HK1, HO_9, HB⟩ := hrel
    cases gk with
    | zero => exact absurd HA.out (by simp [kotatsulaw05_made.l0])
    | succ k1 =>
      have H := HA.out
      clear HA
      simp only [kotatsulaw05_made.l0] at H
      by_cases c5 : x15_1 < (l2.length : Int)
      · rw [if_pos c5] at H
        have c5b0 : decide (x15_1 < (l2.length : Int)) = true := decide_eq_true c5
        clear c5
        by_cases c6 : 0 ≤ x15_1
        · rw [if_pos c6] at H
          have c6b0 : decide (0 ≤ x15_1) = true := decide_eq_true c6
          clear c6
          by_cases c7 : x15_1 < (l2.length : Int)
          · rw [if_pos c7] at H
            have c7b0 : decide (x15_1 < (l2.length : Int)) = true := decide_eq_true c7
            clear c7
            by_cases c8 : x15_1 < 8
            · rw [if_pos c8] at H
              have c8b0 : decide (x15_1 < 8) = true := decide_eq_true c8
              clear c8
              replace H := Option.bind_eq_some_iff.mp H
              obtain ⟨t138, A90, H⟩ := H
              replace H : ((kotatsuref01_Cut.f k1 ((rd_T48 l2 x15_1).f5) 300).bind fun t139 => ((block_File.f ((rd_T48 l2 x15_1).f0) ((rd_T48 l2 x15_1).f1) t138 ((rd_T48 l2 x15_1).f4) ((rd_T48 l2 x15_1).f2) t139).bind fun t142 => (if x9_1.length < 5864062014805 then (kotatsulaw05_made.l0 k1 a0 a1 a3 (x9_1 ++ [t142]) l2 (l2.length : Int) (wrap64 (x15_1 + 1))) else (none)))) = some r := H
              have A9 := Aside0.mk A90
              clear A90
              replace H := Option.bind_eq_some_iff.mp H
              obtain ⟨t139, A100, H⟩ := H
              replace H : ((block_File.f ((rd_T48 l2 x15_1).f0) ((rd_T48 l2 x15_1).f1) t138 ((rd_T48 l2 x15_1).f4) ((rd_T48 l2 x15_1).f2) t139).bind fun t142 => (if x9_1.length < 5864062014805 then (kotatsulaw05_made.l0 k1 a0 a1 a3 (x9_1 ++ [t142]) l2 (l2.length : Int) (wrap64 (x15_1 + 1))) else (none))) = some r := H
              have A10 := Aside0.mk A100
              clear A100
              replace H := Option.bind_eq_some_iff.mp H
              obtain ⟨t142, A110, H⟩ := H
              replace H : (if x9_1.length < 5864062014805 then (kotatsulaw05_made.l0 k1 a0 a1 a3 (x9_1 ++ [t142]) l2 (l2.length : Int) (wrap64 (x15_1 + 1))) else (none)) = some r := H
              have A11 := Aside0.mk A110
              clear A110
              by_cases c12 : x9_1.length < 5864062014805
              · rw [if_pos c12] at H
                have LMc12 := Aside0.mk c12
                clear c12
                obtain ⟨y145, hy145⟩ : ∃ y_ : List (List (S43)), y_ = (x9_1 ++ [t142]) := ⟨_, rfl⟩
                replace H : (kotatsulaw05_made.l0 k1 a0 a1 a3 y145 l2 (l2.length : Int) (wrap64 (x15_1 + 1))) = some r := by first | (rw [hy145]; with_reducible exact H) | (have H2_ := (Option.bind_some _ _).symm.trans H; rw [hy145]; with_reducible exact H2_) | (have H2_ := (Option.bind_some _ _).symm.trans H; with_reducible exact H2_) | with_reducible exact H | (rw [hy145]; exact H) | exact H
                have Ny145 := Aside0.mk hy145
                clear hy145
                have H' := Aside0.mk H
                clear H
                have p136 : 0 ≤ (x15_1 : Int) := of_decide_eq_true (by first | (with_reducible assumption) | assumption)
                have q136 : x15_1 < (l2.length : Int) := of_decide_eq_true (by first | (with_reducible assumption) | assumption)
                obtain ⟨ad136, A136_5, c136_5, e136, hx136_0, hx136_1, hx136_2, hx136_3, hx136_4, hx136_5, hl136_5, hi136_5⟩ := at_T48 HR2.out x15_1 p136 q136
                cases e136
                replace hx136_0 := (HB.out.cell (World.block_lt_of_cell? w _ hx136_0)).trans hx136_0
                replace hx136_1 := (HB.out.cell (World.block_lt_of_cell? w _ hx136_1)).trans hx136_1
                replace hx136_2 := (HB.out.cell (World.block_lt_of_cell? w _ hx136_2)).trans hx136_2
                replace hx136_3 := (HB.out.cell (World.block_lt_of_cell? w _ hx136_3)).trans hx136_3
                replace hx136_4 := (HB.out.cell (World.block_lt_of_cell? w _ hx136_4)).trans hx136_4
                replace hx136_5 := (HB.out.cell (World.block_lt_of_cell? w _ hx136_5)).trans hx136_5
                have HR136_5 := Aside0.mk hi136_5
                have HC136_5 := Aside0.mk hl136_5
                clear hi136_5 hl136_5
                replace p136 := eq_true p136
                replace q136 := eq_true q136
                try go_wp2_with (first | ((with_reducible refine gate_dst (N := 11) rfl ?_); refine box_event ?hg (N := 11) ?hd (cs := #[.int .u8 0, .int .u8 0, .int .u8 0, .string (⟨#[]⟩ : ByteArray), .int .u16 0, .slice none 0 0]) (t := 48) ?hr ?_; (case hd => rfl); (case hg => rfl); (case hr => first | (go_simp; done) | (go_simp; rfl)); intro gb137 hg w13 hbox hb; have n0_ := Aside0.mk (Kd.N_below (Kd.N_elderB (by (with_reducible repeat (first | apply Kd.N_alloc | apply Kd.N_drewN | apply Kd.N_drew)); exact HO_9.out) gb137 (Nat.le_of_eq hg.symm)) hb); have n1_ := Aside0.mk (below_step (by repeat (first | (with_reducible first | exact HB.out | apply below_alloc | apply pw_below_drewN | apply below_drew1) | exact HB.out)) hb); have n2_ := Aside0.mk (hbox); have n3_ := Aside0.mk ((by rw [hg]; exact (below_size (by repeat (first | (with_reducible first | exact HB.out | apply below_alloc | apply pw_below_drewN | apply below_drew1) | exact HB.out))) : w.heap.size ≤ gb137)); have n4_ := Aside0.mk ((by rw [hg]; exact (below_size (by repeat (first | (with_reducible first | exact HB.out | apply below_alloc | apply pw_below_drewN | apply below_drew1) | exact HB.out))) : w.heap.size ≤ gb137)); clear HO_9; clear HB; have HO_9 := n0_; have HB := n1_; have BK137 := n2_; have GW137 := n3_; have GE137 := n4_; clear n0_ n1_ n2_ n3_ n4_; clear hb hbox hg; have hcz14_0 : w13.cell? ⟨gb137, 0, none⟩ = some (.int .u8 0) := (blk_cell BK137.out 0).trans rfl; have hcz14_1 : w13.cell? ⟨gb137, 1, none⟩ = some (.int .u8 0) := (blk_cell BK137.out 1).trans rfl; have hcz14_2 : w13.cell? ⟨gb137, 2, none⟩ = some (.int .u8 0) := (blk_cell BK137.out 2).trans rfl; have hcz14_3 : w13.cell? ⟨gb137, 3, none⟩ = some (.string (⟨#[]⟩ : ByteArray)) := (blk_cell BK137.out 3).trans rfl; have hcz14_4 : w13.cell? ⟨gb137, 4, none⟩ = some (.int .u16 0) := (blk_cell BK137.out 4).trans rfl; have hcz14_5 : w13.cell? ⟨gb137, 5, none⟩ = some (.slice none 0 0) := (blk_cell BK137.out 5).trans rfl; have hfz14_0 := blk_frozen BK137.out 0; have hfz14_1 := blk_frozen BK137.out 1; have hfz14_2 := blk_frozen BK137.out 2; have hfz14_3 := blk_frozen BK137.out 3; have hfz14_4 := blk_frozen BK137.out 4; have hfz14_5 := blk_frozen BK137.out 5))
                have n0_ : Aside0 (Kd.N (Kd.slice 43 k43) 29 ((((((w13.setCell ⟨gb137, 0, none⟩ (.int .u8 ((rd_T48 l2 x15_1).f0))).setCell ⟨gb137, 1, none⟩ (.int .u8 ((rd_T48 l2 x15_1).f1))).setCell ⟨gb137, 2, none⟩ (.int .u8 ((rd_T48 l2 x15_1).f2))).setCell ⟨gb137, 3, none⟩ (.string ((rd_T48 l2 x15_1).f3))).setCell ⟨gb137, 4, none⟩ (.int .u16 ((rd_T48 l2 x15_1).f4))).setCell ⟨gb137, 5, none⟩ (.slice A136_5 ((rd_T48 l2 x15_1).f5).length c136_5)) w.heap.size (fun k_ => (w.heap.size ≤ k_) ∧ k_ ≠ gb137) u9 x9_1) := ⟨by (with_reducible repeat (first | apply Kd.N_alloc | apply Kd.N_drewN | apply Kd.N_drew)); exact Kd.N_mono (Kd.N_far (p := ⟨gb137, 5, none⟩) (Kd.N_far (p := ⟨gb137, 4, none⟩) (Kd.N_far (p := ⟨gb137, 3, none⟩) (Kd.N_far (p := ⟨gb137, 2, none⟩) (Kd.N_far (p := ⟨gb137, 1, none⟩) (Kd.N_far (p := ⟨gb137, 0, none⟩) (Kd.N_mono HO_9.out (fun k_ hk => (⟨hk, hk.2⟩ : _ ∧ k_ ≠ gb137))) (fun _ hk => hk.2) (.int .u8 ((rd_T48 l2 x15_1).f0))) (fun _ hk => hk.2) (.int .u8 ((rd_T48 l2 x15_1).f1))) (fun _ hk => hk.2) (.int .u8 ((rd_T48 l2 x15_1).f2))) (fun _ hk => hk.2) (.string ((rd_T48 l2 x15_1).f3))) (fun _ hk => hk.2) (.int .u16 ((rd_T48 l2 x15_1).f4))) (fun _ hk => hk.2) (.slice A136_5 ((rd_T48 l2 x15_1).f5).length c136_5)) (fun _ hk => ⟨hk.1.1, hk.1.2⟩)⟩
                have n1_ : Aside0 (((((((w13.setCell ⟨gb137, 0, none⟩ (.int .u8 ((rd_T48 l2 x15_1).f0))).setCell ⟨gb137, 1, none⟩ (.int .u8 ((rd_T48 l2 x15_1).f1))).setCell ⟨gb137, 2, none⟩ (.int .u8 ((rd_T48 l2 x15_1).f2))).setCell ⟨gb137, 3, none⟩ (.string ((rd_T48 l2 x15_1).f3))).setCell ⟨gb137, 4, none⟩ (.int .u16 ((rd_T48 l2 x15_1).f4))).setCell ⟨gb137, 5, none⟩ (.slice A136_5 ((rd_T48 l2 x15_1).f5).length c136_5)).heap[gb137]? = some (.cells #[.int .u8 ((rd_T48 l2 x15_1).f0), .int .u8 ((rd_T48 l2 x15_1).f1), .int .u8 ((rd_T48 l2 x15_1).f2), .string ((rd_T48 l2 x15_1).f3), .int .u16 ((rd_T48 l2 x15_1).f4), .slice A136_5 ((rd_T48 l2 x15_1).f5).length c136_5] 48 (0, 0))) := ⟨by (with_reducible repeat (first | refine blk_drewN ?_ _ | refine blk_drew ?_ | refine blk_alloc ?_ _)); refine blk_put (cs := #[.int .u8 ((rd_T48 l2 x15_1).f0), .int .u8 ((rd_T48 l2 x15_1).f1), .int .u8 ((rd_T48 l2 x15_1).f2), .string ((rd_T48 l2 x15_1).f3), .int .u16 ((rd_T48 l2 x15_1).f4), .slice none 0 0]) ?_ 5 _ rfl; (with_reducible repeat (first | refine blk_drewN ?_ _ | refine blk_drew ?_ | refine blk_alloc ?_ _)); refine blk_put (cs := #[.int .u8 ((rd_T48 l2 x15_1).f0), .int .u8 ((rd_T48 l2 x15_1).f1), .int .u8 ((rd_T48 l2 x15_1).f2), .string ((rd_T48 l2 x15_1).f3), .int .u16 0, .slice none 0 0]) ?_ 4 _ rfl; (with_reducible repeat (first | refine blk_drewN ?_ _ | refine blk_drew ?_ | refine blk_alloc ?_ _)); refine blk_put (cs := #[.int .u8 ((rd_T48 l2 x15_1).f0), .int .u8 ((rd_T48 l2 x15_1).f1), .int .u8 ((rd_T48 l2 x15_1).f2), .string (⟨#[]⟩ : ByteArray), .int .u16 0, .slice none 0 0]) ?_ 3 _ rfl; (with_reducible repeat (first | refine blk_drewN ?_ _ | refine blk_drew ?_ | refine blk_alloc ?_ _)); refine blk_put (cs := #[.int .u8 ((rd_T48 l2 x15_1).f0), .int .u8 ((rd_T48 l2 x15_1).f1), .int .u8 0, .string (⟨#[]⟩ : ByteArray), .int .u16 0, .slice none 0 0]) ?_ 2 _ rfl; (with_reducible repeat (first | refine blk_drewN ?_ _ | refine blk_drew ?_ | refine blk_alloc ?_ _)); refine blk_put (cs := #[.int .u8 ((rd_T48 l2 x15_1).f0), .int .u8 0, .int .u8 0, .string (⟨#[]⟩ : ByteArray), .int .u16 0, .slice none 0 0]) ?_ 1 _ rfl; (with_reducible repeat (first | refine blk_drewN ?_ _ | refine blk_drew ?_ | refine blk_alloc ?_ _)); refine blk_put (cs := #[.int .u8 0, .int .u8 0, .int .u8 0, .string (⟨#[]⟩ : ByteArray), .int .u16 0, .slice none 0 0]) ?_ 0 _ rfl; (with_reducible repeat (first | refine blk_drewN ?_ _ | refine blk_drew ?_ | refine blk_alloc ?_ _)); exact BK137.out⟩
                have n2_ : Aside0 (Below w.heap.size w ((((((w13.setCell ⟨gb137, 0, none⟩ (.int .u8 ((rd_T48 l2 x15_1).f0))).setCell ⟨gb137, 1, none⟩ (.int .u8 ((rd_T48 l2 x15_1).f1))).setCell ⟨gb137, 2, none⟩ (.int .u8 ((rd_T48 l2 x15_1).f2))).setCell ⟨gb137, 3, none⟩ (.string ((rd_T48 l2 x15_1).f3))).setCell ⟨gb137, 4, none⟩ (.int .u16 ((rd_T48 l2 x15_1).f4))).setCell ⟨gb137, 5, none⟩ (.slice A136_5 ((rd_T48 l2 x15_1).f5).length c136_5))) := ⟨by repeat (first | (with_reducible first | exact HB.out | apply below_alloc | apply pw_below_drewN | apply below_drew1 | refine below_set ?_ GE137.out) | exact HB.out)⟩
                (try clear HO_9)
                (try clear BK137)
                (try clear HB)
                generalize ((((((w13.setCell ⟨gb137, 0, none⟩ (.int .u8 ((rd_T48 l2 x15_1).f0))).setCell ⟨gb137, 1, none⟩ (.int .u8 ((rd_T48 l2 x15_1).f1))).setCell ⟨gb137, 2, none⟩ (.int .u8 ((rd_T48 l2 x15_1).f2))).setCell ⟨gb137, 3, none⟩ (.string ((rd_T48 l2 x15_1).f3))).setCell ⟨gb137, 4, none⟩ (.int .u16 ((rd_T48 l2 x15_1).f4))).setCell ⟨gb137, 5, none⟩ (.slice A136_5 ((rd_T48 l2 x15_1).f5).length c136_5)) = w15 at n0_ n1_ n2_ ⊢
                have HO_9 := n0_
                have BK137 := n1_
                have HB := n2_
                clear n0_ n1_ n2_
                have n0_ := Aside0.mk (Kd.N_drew HO_9.out)
                have n1_ := Aside0.mk (blk_drew BK137.out)
                have n2_ := Aside0.mk (below_drew1 HB.out)
                clear HO_9
                clear BK137
                clear HB
                have HO_9 := n0_
                have BK137 := n1_
                have HB := n2_
                clear n0_ n1_ n2_
                refine start_ (n := 19) (S := fun w' => w'.cell? ⟨gb137, 0, none⟩ = some (.int .u8 ((rd_T48 l2 x15_1).f0)) ∧ w'.cell? ⟨gb137, 1, none⟩ = some (.int .u8 ((rd_T48 l2 x15_1).f1)) ∧ w'.cell? ⟨gb137, 2, none⟩ = some (.int .u8 ((rd_T48 l2 x15_1).f2)) ∧ w'.cell? ⟨gb137, 3, none⟩ = some (.string ((rd_T48 l2 x15_1).f3)) ∧ w'.cell? ⟨gb137, 4, none⟩ = some (.int .u16 ((rd_T48 l2 x15_1).f4)) ∧ w'.cell? ⟨gb137, 5, none⟩ = some (.slice A136_5 ((rd_T48 l2 x15_1).f5).length c136_5)) (ds := []) #[false, false, false, false, false, false, false, false, false, false, false, false, false, false, false, false, false, false, false] (by kernel_rfl) rfl rfl ⟨(blk_cell BK137.out 0).trans rfl, (blk_cell BK137.out 1).trans rfl, (blk_cell BK137.out 2).trans rfl, (blk_cell BK137.out 3).trans rfl, (blk_cell BK137.out 4).trans rfl, (blk_cell BK137.out 5).trans rfl⟩ (fun hHeld => ?_); refine with_tabW kotatsulaw05_made.tab6 kotatsulaw05_made.bits6 (fun HT_ HW_ => ?_)
                generalize w15.drew = w16 at HO_9 BK137 HB hHeld ⊢
                refine pure_ (i := 0) (N := some 22) (v := ?_) (a' := ?_) #[true, false, false, false, false, false, false, false, false, false, false, false, false, false, false, false, false, false, false] rfl rfl (any_of HT_.out (by kernel_rfl)) (fun _ _ _ h => h) (Or.inl ⟨by rfl, ?_⟩) ?_ ?_
                rotate_left
                · intro w'
                  go_simp
                  with_reducible rfl
                rotate_left
                · simp only [Act.put, List.setIfInBounds_toArray, List.set_cons_zero, List.set_cons_succ, i64_w, i32_w]
                  rfl
                refine pure_ (i := 1) (N := some 23) (v := ?_) (a' := ?_) #[true, true, false, false, false, false, false, false, false, false, false, false, false, false, false, false, false, false, false] rfl rfl (any_of HT_.out (by kernel_rfl)) (fun _ _ _ h => h) (Or.inl ⟨by rfl, ?_⟩) ?_ ?_
                rotate_left
                · intro w'
                  go_simp
                  with_reducible rfl
                rotate_left
                · simp only [Act.put, List.setIfInBounds_toArray, List.set_cons_zero, List.set_cons_succ, i64_w, i32_w]
                  rfl
                refine pure_ (i := 3) (N := some 25) (v := ?_) (a' := ?_) #[true, true, false, true, false, false, false, false, false, false, false, false, false, false, false, false, false, false, false] rfl rfl (any_of HT_.out (by kernel_rfl)) (fun _ _ _ h => h) (Or.inl ⟨by rfl, ?_⟩) ?_ ?_
                rotate_left
                · intro w'
                  go_simp
                  with_reducible rfl
                rotate_left
                · simp only [Act.put, List.setIfInBounds_toArray, List.set_cons_zero, List.set_cons_succ, i64_w, i32_w]
                  rfl
                refine pure_ (i := 5) (N := some 27) (v := ?_) (a' := ?_) #[true, true, false, true, false, true, false, false, false, false, false, false, false, false, false, false, false, false, false] rfl rfl (any_of HT_.out (by kernel_rfl)) (fun _ _ _ h => h) (Or.inl ⟨by rfl, ?_⟩) ?_ ?_
                rotate_left
                · intro w'
                  go_simp
                  with_reducible rfl
                rotate_left
                · simp only [Act.put, List.setIfInBounds_toArray, List.set_cons_zero, List.set_cons_succ, i64_w, i32_w]
                  rfl
                refine pure_ (i := 8) (N := some 30) (v := ?_) (a' := ?_) #[true, true, false, true, false, true, false, false, true, false, false, false, false, false, false, false, false, false, false] rfl rfl (any_of HT_.out (by kernel_rfl)) (fun _ _ _ h => h) (Or.inl ⟨by rfl, ?_⟩) ?_ ?_
                rotate_left
                · intro w'
                  go_simp
                  with_reducible rfl
                rotate_left
                · simp only [Act.put, List.setIfInBounds_toArray, List.set_cons_zero, List.set_cons_succ, i64_w, i32_w]
                  rfl
                refine pure_ (i := 10) (N := some 32) (v := ?_) (a' := ?_) #[true, true, false, true, false, true, false, false, true, false, true, false, false, false, false, false, false, false, false] rfl rfl (any_of HT_.out (by kernel_rfl)) (fun _ _ _ h => h) (Or.inl ⟨by rfl, ?_⟩) ?_ ?_
                rotate_left
                · intro w'
                  go_simp
                  with_reducible rfl
                rotate_left
                · simp only [Act.put, List.setIfInBounds_toArray, List.set_cons_zero, List.set_cons_succ, i64_w, i32_w]
                  rfl
                refine pure_ (i := 12) (N := some 34) (v := ?_) (a' := ?_) #[true, true, false, true, false, true, false, false, true, false, true, false, true, false, false, false, false, false, false] rfl rfl (any_of HT_.out (by kernel_rfl)) (fun _ _ _ h => h) (Or.inl ⟨by rfl, ?_⟩) ?_ ?_
                rotate_left
                · intro w'
                  go_simp
                  with_reducible rfl
                rotate_left
                · simp only [Act.put, List.setIfInBounds_toArray, List.set_cons_zero, List.set_cons_succ, i64_w, i32_w]
                  rfl
                refine take_ (i := 2) (N := some 24) (v := ?_) (a' := ?_) #[true, true, true, true, false, true, false, false, true, false, true, false, true, false, false, false, false, false, false] rfl rfl (take_ofW HT_.out HW_.out (by kernel_rfl)) (fun _ _ _ h => h) (Or.inl ⟨by rfl, ?_⟩) hHeld ?_ ?_
                rotate_left
                · rintro w' ⟨s0, s1, s2, s3, s4, s5⟩
                  go_simp
                  with_reducible rfl
                rotate_left
                · simp only [Act.put, List.setIfInBounds_toArray, List.set_cons_zero, List.set_cons_succ, i64_w, i32_w]
                  rfl
                refine take_ (i := 4) (N := some 26) (v := ?_) (a' := ?_) #[true, true, true, true, true, true, false, false, true, false, true, false, true, false, false, false, false, false, false] rfl rfl (take_ofW HT_.out HW_.out (by kernel_rfl)) (fun _ _ _ h => h) (Or.inl ⟨by rfl, ?_⟩) hHeld ?_ ?_
                rotate_left
                · rintro w' ⟨s0, s1, s2, s3, s4, s5⟩
                  go_simp
                  with_reducible rfl
                rotate_left
                · simp only [Act.put, List.setIfInBounds_toArray, List.set_cons_zero, List.set_cons_succ, i64_w, i32_w]
                  rfl
                refine take_ (i := 6) (N := some 28) (v := ?_) (a' := ?_) #[true, true, true, true, true, true, true, false, true, false, true, false, true, false, false, false, false, false, false] rfl rfl (take_ofW HT_.out HW_.out (by kernel_rfl)) (fun _ _ _ h => h) (Or.inl ⟨by rfl, ?_⟩) hHeld ?_ ?_
                rotate_left
                · rintro w' ⟨s0, s1, s2, s3, s4, s5⟩
                  go_simp
                  with_reducible rfl
                rotate_left
                · simp only [Act.put, List.setIfInBounds_toArray, List.set_cons_zero, List.set_cons_succ, i64_w, i32_w]
                  rfl
                refine take_ (i := 9) (N := some 31) (v := ?_) (a' := ?_) #[true, true, true, true, true, true, true, false, true, true, true, false, true, false, false, false, false, false, false] rfl rfl (take_ofW HT_.out HW_.out (by kernel_rfl)) (fun _ _ _ h => h) (Or.inl ⟨by rfl, ?_⟩) hHeld ?_ ?_
                rotate_left
                · rintro w' ⟨s0, s1, s2, s3, s4, s5⟩
                  go_simp
                  with_reducible rfl
                rotate_left
                · simp only [Act.put, List.setIfInBounds_toArray, List.set_cons_zero, List.set_cons_succ, i64_w, i32_w]
                  rfl
                refine take_ (i := 11) (N := some 33) (v := ?_) (a' := ?_) #[true, true, true, true, true, true, true, false, true, true, true, true, true, false, false, false, false, false, false] rfl rfl (take_ofW HT_.out HW_.out (by kernel_rfl)) (fun _ _ _ h => h) (Or.inl ⟨by rfl, ?_⟩) hHeld ?_ ?_
                rotate_left
                · rintro w' ⟨s0, s1, s2, s3, s4, s5⟩
                  go_simp
                  with_reducible rfl
                rotate_left
                · simp only [Act.put, List.setIfInBounds_toArray, List.set_cons_zero, List.set_cons_succ, i64_w, i32_w]
                  rfl
                refine take_ (i := 13) (N := some 35) (v := ?_) (a' := ?_) #[true, true, true, true, true, true, true, false, true, true, true, true, true, true, false, false, false, false, false] rfl rfl (take_ofW HT_.out HW_.out (by kernel_rfl)) (fun _ _ _ h => h) (Or.inl ⟨by rfl, ?_⟩) hHeld ?_ ?_
                rotate_left
                · rintro w' ⟨s0, s1, s2, s3, s4, s5⟩
                  go_simp
                  with_reducible rfl
                rotate_left
                · simp only [Act.put, List.setIfInBounds_toArray, List.set_cons_zero, List.set_cons_succ, i64_w, i32_w]
                  rfl
                refine one_ (i := 7) (N := some 29) #[true, true, true, true, true, true, true, true, true, true, true, true, true, true, false, false, false, false, false] rfl rfl (one_of HT_.out (by kernel_rfl)) (by decide) (fun K hK => ?_)
                refine goes_ Try.func22 (by kernel_rfl) rfl #[.string ((rd_T48 l2 x15_1).f3), .int .i64 20] (by rfl) rfl rfl (by (try simp only [List.map_toArray, List.map_cons, List.map_nil]); first | done | rfl | (simp only [List.length_drop, List.length_take]; rfl)) ?_
                with_reducible refine (kotatsuref01_Text.calls ((rd_T48 l2 x15_1).f3) 20 t138 _ A9.out).mono ?_
                rintro e w17 ⟨rfl, hb⟩
                refine ⟨_, rfl, ?_⟩
                have n0_ := Aside0.mk (Kd.N_below (by (with_reducible repeat (first | apply Kd.N_alloc | apply Kd.N_drewN | apply Kd.N_drew)); exact HO_9.out) hb)
                have n1_ := Aside0.mk (blk_below (g := gb137) (o := .cells #[.int .u8 ((rd_T48 l2 x15_1).f0), .int .u8 ((rd_T48 l2 x15_1).f1), .int .u8 ((rd_T48 l2 x15_1).f2), .string ((rd_T48 l2 x15_1).f3), .int .u16 ((rd_T48 l2 x15_1).f4), .slice A136_5 ((rd_T48 l2 x15_1).f5).length c136_5] 48 (0, 0)) (by (with_reducible repeat (first | refine blk_drewN ?_ _ | refine blk_drew ?_ | refine blk_alloc ?_ _)); exact BK137.out) hb)
                have n2_ := Aside0.mk (below_step (by repeat (first | (with_reducible first | exact HB.out | apply below_alloc | apply pw_below_drewN | apply below_drew1 | refine below_set ?_ GE137.out) | exact HB.out)) hb)
                clear HO_9
                clear BK137
                clear HB
                have HO_9 := n0_
                have BK137 := n1_
                have HB := n2_
                clear n0_ n1_ n2_
                (try clear hb)
                (try clear hb2)
                (try clear hk)
                (try clear hi)
                refine hK.out _ _ ⟨(blk_cell BK137.out 0).trans rfl, (blk_cell BK137.out 1).trans rfl, (blk_cell BK137.out 2).trans rfl, (blk_cell BK137.out 3).trans rfl, (blk_cell BK137.out 4).trans rfl, (blk_cell BK137.out 5).trans rfl⟩ (fun hHeld => ?_)
                clear hK K
                refine norm_ (a' := ?_) ?_ ?_
                rotate_left
                · show Act.put _ (some 29) _ = _
                  simp only [Act.put, List.setIfInBounds_toArray, List.set_cons_zero, List.set_cons_succ, i64_w, i32_w]
                  rfl
                refine one_ (i := 14) (N := some 36) #[true, true, true, true, true, true, true, true, true, true, true, true, true, true, true, false, false, false, false] rfl rfl (one_of HT_.out (by kernel_rfl)) (by decide) (fun K hK => ?_)
                refine goes_ Try.func9 (by kernel_rfl) rfl #[.slice A136_5 ((rd_T48 l2 x15_1).f5).length c136_5, .int .i64 300] (by rfl) rfl rfl (by (try simp only [List.map_toArray, List.map_cons, List.map_nil]); first | done | rfl | (simp only [List.length_drop, List.length_take]; rfl)) ?_
                with_reducible refine (kotatsuref01_Cut.calls k1 _ _ ((rd_T48 l2 x15_1).f5) 300 t139 _ ?side1 ?side2 A10.out).mono ?_
                (case side1 => repeat (first | exact (Kd.C_below HR136_5.out HB.out) | (with_reducible refine Kd.C_alloc ?_ _) | (with_reducible refine Kd.C_drewN ?_ _) | (with_reducible refine Kd.C_drew ?_)))
                (case side2 => exact HC136_5.out)
                rintro e w18 ⟨v140, rfl, ho0, hb⟩
                refine ⟨_, rfl, ?_⟩
                have n0_ := Aside0.mk (Kd.N_below (by (with_reducible repeat (first | apply Kd.N_alloc | apply Kd.N_drewN | apply Kd.N_drew)); exact HO_9.out) hb)
                have n1_ := Aside0.mk (Kd.V_lower (Kd.V_mono (ok' := fun k_ => (w.heap.size ≤ k_) ∧ some k_ ≠ (u9 : Value).ownBlock ∧ k_ ≠ gb137) ho0 (fun k_ hk_ => ⟨(Nat.le_trans (below_size (by repeat (first | (with_reducible first | exact HB.out | apply below_alloc | apply pw_below_drewN | apply below_drew1 | refine below_set ?_ GE137.out) | exact HB.out))) hk_), (Kd.fresh' (Kd.N_lt (by (with_reducible repeat (first | apply Kd.N_alloc | apply Kd.N_drewN | apply Kd.N_drew)); exact HO_9.out)) k_ hk_), (Kd.freshB (g := gb137) (o := .cells #[.int .u8 ((rd_T48 l2 x15_1).f0), .int .u8 ((rd_T48 l2 x15_1).f1), .int .u8 ((rd_T48 l2 x15_1).f2), .string ((rd_T48 l2 x15_1).f3), .int .u16 ((rd_T48 l2 x15_1).f4), .slice A136_5 ((rd_T48 l2 x15_1).f5).length c136_5] 48 (0, 0)) (by (with_reducible repeat (first | refine blk_drewN ?_ _ | refine blk_drew ?_ | refine blk_alloc ?_ _)); exact BK137.out) k_ hk_)⟩)) (below_size (by repeat (first | (with_reducible first | exact HB.out | apply below_alloc | apply pw_below_drewN | apply below_drew1 | refine below_set ?_ GE137.out) | exact HB.out))))
                have n2_ := Aside0.mk (blk_below (g := gb137) (o := .cells #[.int .u8 ((rd_T48 l2 x15_1).f0), .int .u8 ((rd_T48 l2 x15_1).f1), .int .u8 ((rd_T48 l2 x15_1).f2), .string ((rd_T48 l2 x15_1).f3), .int .u16 ((rd_T48 l2 x15_1).f4), .slice A136_5 ((rd_T48 l2 x15_1).f5).length c136_5] 48 (0, 0)) (by (with_reducible repeat (first | refine blk_drewN ?_ _ | refine blk_drew ?_ | refine blk_alloc ?_ _)); exact BK137.out) hb)
                have n3_ := Aside0.mk (below_step (by repeat (first | (with_reducible first | exact HB.out | apply below_alloc | apply pw_below_drewN | apply below_drew1 | refine below_set ?_ GE137.out) | exact HB.out)) hb)
                clear HO_9
                clear BK137
                clear HB
                have HO_9 := n0_
                have HO141 := n1_
                have BK137 := n2_
                have HB := n3_
                clear n0_ n1_ n2_ n3_
                (try clear hb)
                (try clear hb2)
                (try clear hk)
                (try clear hi)
                (try clear ho0)
                obtain ⟨Ao19, co19, eo19⟩ := Kd.V_slice HO141.out
                (first | subst eo19 | (injection eo19 with f1_ f2_ f3_; have f4_ := f1_.symm; have f5_ := f3_.symm; clear f1_ f2_ f3_; subst f4_; subst f5_))
                refine hK.out _ _ ⟨(blk_cell BK137.out 0).trans rfl, (blk_cell BK137.out 1).trans rfl, (blk_cell BK137.out 2).trans rfl, (blk_cell BK137.out 3).trans rfl, (blk_cell BK137.out 4).trans rfl, (blk_cell BK137.out 5).trans rfl⟩ (fun hHeld => ?_)
                clear hK K
                refine norm_ (a' := ?_) ?_ ?_
                rotate_left
                · show Act.put _ (some 36) _ = _
                  simp only [Act.put, List.setIfInBounds_toArray, List.set_cons_zero, List.set_cons_succ, i64_w, i32_w]
                  rfl
                refine one_ (i := 15) (N := some 37) #[true, true, true, true, true, true, true, true, true, true, true, true, true, true, true, true, false, false, false] rfl rfl (one_of HT_.out (by kernel_rfl)) (by decide) (fun K hK => ?_)
                refine goes_ Try.func23 (by kernel_rfl) rfl #[.int .u8 ((rd_T48 l2 x15_1).f0), .int .u8 ((rd_T48 l2 x15_1).f1), .string t138, .int .u16 ((rd_T48 l2 x15_1).f4), .int .u8 ((rd_T48 l2 x15_1).f2), .slice Ao19 t139.length co19] (by rfl) rfl rfl (by (try simp only [List.map_toArray, List.map_cons, List.map_nil]); first | done | rfl | (simp only [List.length_drop, List.length_take]; rfl)) ?_
                with_reducible refine (block_File.calls ((rd_T48 l2 x15_1).f0) ((rd_T48 l2 x15_1).f1) t138 ((rd_T48 l2 x15_1).f4) ((rd_T48 l2 x15_1).f2) _ _ t139 t142 _ ?side1 ?side2 A11.out).mono ?_
                (case side1 => repeat (first | exact (Kd.V_reads' HO141.out).2.2 | (with_reducible refine Kd.C_alloc ?_ _) | (with_reducible refine Kd.C_drewN ?_ _) | (with_reducible refine Kd.C_drew ?_)))
                (case side2 => exact (Kd.V_reads' HO141.out).2.1)
                rintro e w20 ⟨v143, rfl, ho0, hb⟩
                refine ⟨_, rfl, ?_⟩
                have n0_ := Aside0.mk (Kd.N_below (by (with_reducible repeat (first | apply Kd.N_alloc | apply Kd.N_drewN | apply Kd.N_drew)); exact HO_9.out) hb)
                have n1_ := Aside0.mk (Kd.V_below (by (with_reducible repeat (first | apply Kd.V_alloc | apply Kd.V_drewN | apply Kd.V_drew)); exact HO141.out) hb)
                have n2_ := Aside0.mk (Kd.V_lower (Kd.V_mono (ok' := fun k_ => (w.heap.size ≤ k_) ∧ some k_ ≠ (u9 : Value).ownBlock ∧ k_ ≠ gb137) ho0 (fun k_ hk_ => ⟨(Nat.le_trans (below_size (by repeat (first | (with_reducible first | exact HB.out | apply below_alloc | apply pw_below_drewN | apply below_drew1 | refine below_set ?_ GE137.out) | exact HB.out))) hk_), (Kd.fresh' (Kd.N_lt (by (with_reducible repeat (first | apply Kd.N_alloc | apply Kd.N_drewN | apply Kd.N_drew)); exact HO_9.out)) k_ hk_), (Kd.freshB (g := gb137) (o := .cells #[.int .u8 ((rd_T48 l2 x15_1).f0), .int .u8 ((rd_T48 l2 x15_1).f1), .int .u8 ((rd_T48 l2 x15_1).f2), .string ((rd_T48 l2 x15_1).f3), .int .u16 ((rd_T48 l2 x15_1).f4), .slice A136_5 ((rd_T48 l2 x15_1).f5).length c136_5] 48 (0, 0)) (by (with_reducible repeat (first | refine blk_drewN ?_ _ | refine blk_drew ?_ | refine blk_alloc ?_ _)); exact BK137.out) k_ hk_)⟩)) (below_size (by repeat (first | (with_reducible first | exact HB.out | apply below_alloc | apply pw_below_drewN | apply below_drew1 | refine below_set ?_ GE137.out) | exact HB.out))))
                have n3_ := Aside0.mk (blk_below (g := gb137) (o := .cells #[.int .u8 ((rd_T48 l2 x15_1).f0), .int .u8 ((rd_T48 l2 x15_1).f1), .int .u8 ((rd_T48 l2 x15_1).f2), .string ((rd_T48 l2 x15_1).f3), .int .u16 ((rd_T48 l2 x15_1).f4), .slice A136_5 ((rd_T48 l2 x15_1).f5).length c136_5] 48 (0, 0)) (by (with_reducible repeat (first | refine blk_drewN ?_ _ | refine blk_drew ?_ | refine blk_alloc ?_ _)); exact BK137.out) hb)
                have n4_ := Aside0.mk (below_step (by repeat (first | (with_reducible first | exact HB.out | apply below_alloc | apply pw_below_drewN | apply below_drew1 | refine below_set ?_ GE137.out) | exact HB.out)) hb)
                clear HO_9
                clear HO141
                clear BK137
                clear HB
                have HO_9 := n0_
                have HO141 := n1_
                have HO144 := n2_
                have BK137 := n3_
                have HB := n4_
                clear n0_ n1_ n2_ n3_ n4_
                (try clear hb)
                (try clear hb2)
                (try clear hk)
                (try clear hi)
                (try clear ho0)
                obtain ⟨Ao22, co22, eo22⟩ := Kd.V_slice HO144.out
                (first | subst eo22 | (injection eo22 with f1_ f2_ f3_; have f4_ := f1_.symm; have f5_ := f3_.symm; clear f1_ f2_ f3_; subst f4_; subst f5_))
                refine hK.out _ _ ⟨(blk_cell BK137.out 0).trans rfl, (blk_cell BK137.out 1).trans rfl, (blk_cell BK137.out 2).trans rfl, (blk_cell BK137.out 3).trans rfl, (blk_cell BK137.out 4).trans rfl, (blk_cell BK137.out 5).trans rfl⟩ (fun hHeld => ?_)
                clear hK K
                refine norm_ (a' := ?_) ?_ ?_
                rotate_left
                · show Act.put _ (some 37) _ = _
                  simp only [Act.put, List.setIfInBounds_toArray, List.set_cons_zero, List.set_cons_succ, i64_w, i32_w]
                  rfl
                refine one_ (i := 16) (N := some 38) #[true, true, true, true, true, true, true, true, true, true, true, true, true, true, true, true, true, false, false] rfl rfl (one_of HT_.out (by kernel_rfl)) (by decide) (fun K hK => ?_)
                refine value_ (w1 := ?_) (v := ?_) (by rfl) rfl ?_ ?_
                rotate_left 2
                · go_simp
                  constructor
                  · rfl
                  · rfl
                refine hK.out _ _ ⟨(blk_cell (blk_alloc BK137.out _) 0).trans rfl, (blk_cell (blk_alloc BK137.out _) 1).trans rfl, (blk_cell (blk_alloc BK137.out _) 2).trans rfl, (blk_cell (blk_alloc BK137.out _) 3).trans rfl, (blk_cell (blk_alloc BK137.out _) 4).trans rfl, (blk_cell (blk_alloc BK137.out _) 5).trans rfl⟩ (fun hHeld => ?_)
                clear hK K
                refine norm_ (a' := ?_) ?_ ?_
                rotate_left
                · show Act.put _ (some 38) _ = _
                  simp only [Act.put, List.setIfInBounds_toArray, List.set_cons_zero, List.set_cons_succ, i64_w, i32_w]
                  rfl
                refine one_ (i := 17) (N := some 39) #[true, true, true, true, true, true, true, true, true, true, true, true, true, true, true, true, true, true, false] rfl rfl (one_of HT_.out (by kernel_rfl)) (by decide) (fun K hK => ?_)
                refine Kd.N_append_step (Kd.slice 43 k43) (w0 := w) w.heap.size (by rfl) (.tmp 22) (.tmp 38) 54 29 (.slice none 0 0) 24 rfl Try.underlying54 info29 rfl (by decide) (by omega) u9 x9_1 t142 [.slice Ao22 t142.length co22] (fun k_ => (w.heap.size ≤ k_) ∧ k_ ≠ gb137) (fun k_ => ((fun k_ => (w.heap.size ≤ k_) ∧ k_ ≠ gb137)) k_ ∧ some k_ ≠ (u9 : Value).ownBlock) rfl rfl ?aP (fun _ hk => hk) ?aF ?aO ?aB ?aS ?aL ?_
                (case aP => exact (Kd.FK_slice_mk (Kd.V_reads' (Kd.V_mono (ok' := (fun k_ => ((fun k_ => (w.heap.size ≤ k_) ∧ k_ ≠ gb137)) k_ ∧ some k_ ≠ (u9 : Value).ownBlock)) (HO144.out) (fun k_ hk => ⟨⟨hk.1, hk.2.2⟩, hk.2.1⟩))).2.1 (Kd.V_F (Kd.V_mono (ok' := (fun k_ => ((fun k_ => (w.heap.size ≤ k_) ∧ k_ ≠ gb137)) k_ ∧ some k_ ≠ (u9 : Value).ownBlock)) (HO144.out) (fun k_ hk => ⟨⟨hk.1, hk.2.2⟩, hk.2.1⟩)))))
                (case aB => exact (by repeat (first | (with_reducible first | exact HB.out | apply below_alloc | apply pw_below_drewN | apply below_drew1 | refine below_set ?_ GE137.out) | exact HB.out)))
                (case aF => exact (fun k_ hk => ⟨(Nat.le_trans (below_size (by repeat (first | (with_reducible first | exact HB.out | apply below_alloc | apply pw_below_drewN | apply below_drew1 | refine below_set ?_ GE137.out) | exact HB.out))) hk), Kd.freshB (g := gb137) (o := .cells #[.int .u8 ((rd_T48 l2 x15_1).f0), .int .u8 ((rd_T48 l2 x15_1).f1), .int .u8 ((rd_T48 l2 x15_1).f2), .string ((rd_T48 l2 x15_1).f3), .int .u16 ((rd_T48 l2 x15_1).f4), .slice A136_5 ((rd_T48 l2 x15_1).f5).length c136_5] 48 (0, 0)) (by (with_reducible repeat (first | refine blk_drewN ?_ _ | refine blk_drew ?_ | refine blk_alloc ?_ _)); exact BK137.out) k_ hk⟩))
                (case aO => exact (by (with_reducible repeat (first | apply Kd.N_alloc | apply Kd.N_drewN | apply Kd.N_drew)); exact HO_9.out))
                (case aS => exact (below_size (by repeat (first | (with_reducible first | exact HB.out | apply below_alloc | apply pw_below_drewN | apply below_drew1 | refine below_set ?_ GE137.out) | exact HB.out))))
                (case aL => have := LMc12.out; omega)
                intro v146 w21 ho hb hg hat
                rw [← Ny145.out] at ho
                have n0_ := Aside0.mk (blk_grown (g := gb137) (o := .cells #[.int .u8 ((rd_T48 l2 x15_1).f0), .int .u8 ((rd_T48 l2 x15_1).f1), .int .u8 ((rd_T48 l2 x15_1).f2), .string ((rd_T48 l2 x15_1).f3), .int .u16 ((rd_T48 l2 x15_1).f4), .slice A136_5 ((rd_T48 l2 x15_1).f5).length c136_5] 48 (0, 0)) (by (with_reducible repeat (first | refine blk_drewN ?_ _ | refine blk_drew ?_ | refine blk_alloc ?_ _)); exact BK137.out) hg (Kd.N_ne HO_9.out BK137.out (by decide)))
                have n1_ := Aside0.mk (Kd.V_afterv (ok := (fun k_ => (w.heap.size ≤ k_) ∧ k_ ≠ gb137)) (by (with_reducible repeat (first | apply Kd.V_alloc | apply Kd.V_drewN | apply Kd.V_drew)); exact Kd.V_mono HO141.out (fun _ hk => ⟨⟨hk.1, hk.2.2⟩, hk.2.1⟩)) hg hat)
                have n2_ := Aside0.mk (Kd.V_afterv (ok := (fun k_ => (w.heap.size ≤ k_) ∧ k_ ≠ gb137)) (by (with_reducible repeat (first | apply Kd.V_alloc | apply Kd.V_drewN | apply Kd.V_drew)); exact Kd.V_mono HO144.out (fun _ hk => ⟨⟨hk.1, hk.2.2⟩, hk.2.1⟩)) hg hat)
                have n3_ := Aside0.mk (hb)
                have n4_ := Aside0.mk (ho)
                clear BK137
                clear HO141
                clear HO144
                clear HB
                clear HO_9
                have BK137 := n0_
                have HO141 := n1_
                have HO144 := n2_
                have HB := n3_
                have HO147 := n4_
                clear n0_ n1_ n2_ n3_ n4_
                clear ho hb hg hat
                refine hK.out _ _ ⟨(blk_cell BK137.out 0).trans rfl, (blk_cell BK137.out 1).trans rfl, (blk_cell BK137.out 2).trans rfl, (blk_cell BK137.out 3).trans rfl, (blk_cell BK137.out 4).trans rfl, (blk_cell BK137.out 5).trans rfl⟩ (fun hHeld => ?_)
                clear hK K
                refine norm_ (a' := ?_) ?_ ?_
                rotate_left
                · show Act.put _ (some 39) _ = _
                  simp only [Act.put, List.setIfInBounds_toArray, List.set_cons_zero, List.set_cons_succ, i64_w, i32_w]
                  rfl
                refine pure_ (i := 18) (N := some 9) (v := ?_) (a' := ?_) #[true, true, true, true, true, true, true, true, true, true, true, true, true, true, true, true, true, true, true] rfl rfl (any_of HT_.out (by kernel_rfl)) (fun _ _ _ h => h) (Or.inl ⟨by rfl, ?_⟩) ?_ ?_
                rotate_left
                · intro w'
                  go_simp
                  with_reducible rfl
                rotate_left
                · simp only [Act.put, List.setIfInBounds_toArray, List.set_cons_zero, List.set_cons_succ, i64_w, i32_w]
                  rfl
                refine done_ (done_of HT_.out (by kernel_rfl)) ?_
                try go_wp2
                go_roundg k1
                case measure => have := HK1.out; omega
                case rel => exact ⟨(y145), (wrap64 (x15_1 + 1)), (by first | rfl | (simp; done) | (simp [*]; done)), H', ⟨by have := HK1.out; omega⟩, ⟨by (with_reducible repeat (first | apply Kd.N_alloc | apply Kd.N_drewN | apply Kd.N_drew)); exact Kd.N_mono HO147.out (fun _ hk => hk.1)⟩, ⟨by repeat (first | (with_reducible first | exact HB.out | apply below_alloc | apply pw_below_drewN | apply below_drew1 | refine below_set ?_ GE137.out) | exact HB.out)⟩⟩
              · rw [if_neg c12] at H
                exact absurd H (by simp)
            · rw [if_neg c8] at H
              have c8b0 : decide (x15_1 < 8) = false := decide_eq_false c8
              clear c8
              have H' := Aside0.mk H
              clear H
              have p136 : 0 ≤ (x15_1 : Int) := of_decide_eq_true (by first | (with_reducible assumption) | assumption)
              have q136 : x15_1 < (l2.length : Int) := of_decide_eq_true (by first | (with_reducible assumption) | assumption)
              obtain ⟨ad136, A136_5, c136_5, e136, hx136_0, hx136_1, hx136_2, hx136_3, hx136_4, hx136_5, hl136_5, hi136_5⟩ := at_T48 HR2.out x15_1 p136 q136
              cases e136
              replace hx136_0 := (HB.out.cell (World.block_lt_of_cell? w _ hx136_0)).trans hx136_0
              replace hx136_1 := (HB.out.cell (World.block_lt_of_cell? w _ hx136_1)).trans hx136_1
              replace hx136_2 := (HB.out.cell (World.block_lt_of_cell? w _ hx136_2)).trans hx136_2
              replace hx136_3 := (HB.out.cell (World.block_lt_of_cell? w _ hx136_3)).trans hx136_3
              replace hx136_4 := (HB.out.cell (World.block_lt_of_cell? w _ hx136_4)).trans hx136_4
              replace hx136_5 := (HB.out.cell (World.block_lt_of_cell? w _ hx136_5)).trans hx136_5
              have HR136_5 := Aside0.mk hi136_5
              have HC136_5 := Aside0.mk hl136_5
              clear hi136_5 hl136_5
              replace p136 := eq_true p136
              replace q136 := eq_true q136
              go_wp2_with (first | ((with_reducible refine gate_dst (N := 11) rfl ?_); refine box_event ?hg (N := 11) ?hd (cs := #[.int .u8 0, .int .u8 0, .int .u8 0, .string (⟨#[]⟩ : ByteArray), .int .u16 0, .slice none 0 0]) (t := 48) ?hr ?_; (case hd => rfl); (case hg => rfl); (case hr => first | (go_simp; done) | (go_simp; rfl)); intro gb137 hg w23 hbox hb; have n0_ := Aside0.mk (Kd.N_below (Kd.N_elderB (by (with_reducible repeat (first | apply Kd.N_alloc | apply Kd.N_drewN | apply Kd.N_drew)); exact HO_9.out) gb137 (Nat.le_of_eq hg.symm)) hb); have n1_ := Aside0.mk (below_step (by repeat (first | (with_reducible first | exact HB.out | apply below_alloc | apply pw_below_drewN | apply below_drew1) | exact HB.out)) hb); have n2_ := Aside0.mk (hbox); have n3_ := Aside0.mk ((by rw [hg]; exact (below_size (by repeat (first | (with_reducible first | exact HB.out | apply below_alloc | apply pw_below_drewN | apply below_drew1) | exact HB.out))) : w.heap.size ≤ gb137)); have n4_ := Aside0.mk ((by rw [hg]; exact (below_size (by repeat (first | (with_reducible first | exact HB.out | apply below_alloc | apply pw_below_drewN | apply below_drew1) | exact HB.out))) : w.heap.size ≤ gb137)); clear HO_9; clear HB; have HO_9 := n0_; have HB := n1_; have BK137 := n2_; have GW137 := n3_; have GE137 := n4_; clear n0_ n1_ n2_ n3_ n4_; clear hb hbox hg; have hcz24_0 : w23.cell? ⟨gb137, 0, none⟩ = some (.int .u8 0) := (blk_cell BK137.out 0).trans rfl; have hcz24_1 : w23.cell? ⟨gb137, 1, none⟩ = some (.int .u8 0) := (blk_cell BK137.out 1).trans rfl; have hcz24_2 : w23.cell? ⟨gb137, 2, none⟩ = some (.int .u8 0) := (blk_cell BK137.out 2).trans rfl; have hcz24_3 : w23.cell? ⟨gb137, 3, none⟩ = some (.string (⟨#[]⟩ : ByteArray)) := (blk_cell BK137.out 3).trans rfl; have hcz24_4 : w23.cell? ⟨gb137, 4, none⟩ = some (.int .u16 0) := (blk_cell BK137.out 4).trans rfl; have hcz24_5 : w23.cell? ⟨gb137, 5, none⟩ = some (.slice none 0 0) := (blk_cell BK137.out 5).trans rfl; have hfz24_0 := blk_frozen BK137.out 0; have hfz24_1 := blk_frozen BK137.out 1; have hfz24_2 := blk_frozen BK137.out 2; have hfz24_3 := blk_frozen BK137.out 3; have hfz24_4 := blk_frozen BK137.out 4; have hfz24_5 := blk_frozen BK137.out 5))
              go_roundg k1
              case measure => have := HK1.out; omega
              case rel => exact ⟨(x9_1), (wrap64 (x15_1 + 1)), (by first | rfl | (simp; done) | (simp [*]; done)), H', ⟨by have := HK1.out; omega⟩, ⟨by (with_reducible repeat (first | apply Kd.N_alloc | apply Kd.N_drewN | apply Kd.N_drew)); exact Kd.N_mono (Kd.N_far (p := ⟨gb137, 5, none⟩) (Kd.N_far (p := ⟨gb137, 4, none⟩) (Kd.N_far (p := ⟨gb137, 3, none⟩) (Kd.N_far (p := ⟨gb137, 2, none⟩) (Kd.N_far (p := ⟨gb137, 1, none⟩) (Kd.N_far (p := ⟨gb137, 0, none⟩) (Kd.N_mono HO_9.out (fun k_ hk => (⟨hk, hk.2⟩ : _ ∧ k_ ≠ gb137))) (fun _ hk => hk.2) (.int .u8 ((rd_T48 l2 x15_1).f0))) (fun _ hk => hk.2) (.int .u8 ((rd_T48 l2 x15_1).f1))) (fun _ hk => hk.2) (.int .u8 ((rd_T48 l2 x15_1).f2))) (fun _ hk => hk.2) (.string ((rd_T48 l2 x15_1).f3))) (fun _ hk => hk.2) (.int .u16 ((rd_T48 l2 x15_1).f4))) (fun _ hk => hk.2) (.slice A136_5 ((rd_T48 l2 x15_1).f5).length c136_5)) (fun _ hk => hk.1.1)⟩, ⟨by repeat (first | (with_reducible first | exact HB.out | apply below_alloc | apply pw_below_drewN | apply below_drew1 | refine below_set ?_ GE137.out) | exact HB.out)⟩⟩
          · rw [if_neg c7] at H
            exact absurd H (by simp)
        · rw [if_neg c6] at H
          exact absurd H (by simp)
      · rw [if_neg c5] at H
        have c5b0 : decide (x15_1 < (l2.length : Int)) = false := decide_eq_false c5
        clear c5
        replace H := Option.bind_eq_some_iff.mp H
        obtain ⟨t129, A250, H⟩ := H
        replace H : ((block_Disk.f t129 a1 x9_1).bind fun t130 => (if 0 ≤ (mx 0 (wrap64 ((t130.length : Int) - (wrap64 (Int.tmod a3 5))))) then (if (mx 0 (wrap64 ((t130.length : Int) - (wrap64 (Int.tmod a3 5))))) ≤ (t130.length : Int) then (some (t130.take ((mx 0 (wrap64 ((t130.length : Int) - (wrap64 (Int.tmod a3 5))))) : Int).toNat)) else (none)) else (none))) = some r := H
        have A25 := Aside0.mk A250
        clear A250
        replace H := Option.bind_eq_some_iff.mp H
        obtain ⟨t130, A260, H⟩ := H
        replace H : (if 0 ≤ (mx 0 (wrap64 ((t130.length : Int) - (wrap64 (Int.tmod a3 5))))) then (if (mx 0 (wrap64 ((t130.length : Int) - (wrap64 (Int.tmod a3 5))))) ≤ (t130.length : Int) then (some (t130.take ((mx 0 (wrap64 ((t130.length : Int) - (wrap64 (Int.tmod a3 5))))) : Int).toNat)) else (none)) else (none)) = some r := H
        have A26 := Aside0.mk A260
        clear A260
        obtain ⟨ji27, hji27⟩ : ∃ j_ : Int, (mx 0 (wrap64 ((t130.length : Int) - (wrap64 (Int.tmod a3 5))))) = j_ := ⟨_, rfl⟩
        replace H : (if 0 ≤ (ji27) then (if (ji27) ≤ (t130.length : Int) then (some (t130.take ((ji27) : Int).toNat)) else (none)) else (none)) = some r := by first | (rw [hji27] at H; exact H) | (simp only [hji27] at H ⊢; exact H)
        (try rw [hji27] at A25)
        (try rw [hji27] at A26)
        have hji27_ : (if 0 < (wrap64 ((t130.length : Int) - (wrap64 (Int.tmod a3 5)))) then (wrap64 ((t130.length : Int) - (wrap64 (Int.tmod a3 5)))) else 0) = ji27 := hji27
        by_cases c28 : 0 ≤ (ji27)
        · rw [if_pos c28] at H
          have c28b0 := eq_true c28
          have c28b1 : decide (0 ≤ (ji27)) = true := decide_eq_true c28
          clear c28
          by_cases c29 : (ji27) ≤ (t130.length : Int)
          · rw [if_pos c29] at H
            have c29b0 := eq_true c29
            have c29b1 : decide ((ji27) ≤ (t130.length : Int)) = true := decide_eq_true c29
            clear c29
            obtain ⟨y133, hy133⟩ : ∃ y_ : List (S43), y_ = (t130.take ((ji27) : Int).toNat) := ⟨_, rfl⟩
            replace H : (some y133) = some r := by first | (rw [hy133]; with_reducible exact H) | (have H2_ := (Option.bind_some _ _).symm.trans H; rw [hy133]; with_reducible exact H2_) | (have H2_ := (Option.bind_some _ _).symm.trans H; with_reducible exact H2_) | with_reducible exact H | (rw [hy133]; exact H) | exact H
            have Ny133 := Aside0.mk hy133
            clear hy133
            obtain rfl := Option.some.inj H
            go_wp2_with (first | ((with_reducible refine gate_callee (f := 22) rfl ?_); refine goesL_ (some 42) rfl rfl Try.func22 (by kernel_rfl) rfl #[.string a0, .int .i64 20] rfl (by (try simp only [List.map_toArray, List.map_cons, List.map_nil]); first | done | rfl | (simp only [List.length_drop, List.length_take]; rfl)) ?_; (with_reducible refine (kotatsuref01_Text.calls a0 20 t129 _ A25.out).mono ?_); rintro e w30 ⟨rfl, hb⟩; refine ⟨_, rfl, ?_⟩; have n0_ := Aside0.mk (Kd.N_below (by (with_reducible repeat (first | apply Kd.N_alloc | apply Kd.N_drewN | apply Kd.N_drew)); exact HO_9.out) hb); have n1_ := Aside0.mk (below_step (by repeat (first | (with_reducible first | exact HB.out | apply below_alloc | apply pw_below_drewN | apply below_drew1) | exact HB.out)) hb); clear HO_9; clear HB; have HO_9 := n0_; have HB := n1_; clear n0_ n1_; (try clear hb); (try clear hb2); (try clear hk); (try clear hi); obtain ⟨Ao31, co31, eo31⟩ := Kd.N_slice HO_9.out; subst eo31) | ((with_reducible refine gate_callee (f := 13) rfl ?_); refine goesL_ (some 45) rfl rfl Try.func13 (by kernel_rfl) rfl #[.string t129, .int .u8 a1, .slice Ao31 x9_1.length co31] rfl (by (try simp only [List.map_toArray, List.map_cons, List.map_nil]); first | done | rfl | (simp only [List.length_drop, List.length_take]; rfl)) ?_; (with_reducible refine (block_Disk.calls t129 a1 (fun k_ => (w.heap.size ≤ k_)) _ _ x9_1 t130 _ ?side1 A26.out).mono ?_); (case side1 => exact Kd.N_V (HO_9.out)); rintro e w32 ⟨v131, rfl, ho0, hb⟩; refine ⟨_, rfl, ?_⟩; have n0_ := Aside0.mk (Kd.N_elder' (by (with_reducible repeat (first | apply Kd.N_alloc | apply Kd.N_drewN | apply Kd.N_drew)); exact HO_9.out) (Kd.N_base ho0) hb); have n1_ := Aside0.mk (Kd.N_lower (Kd.N_mono (ok' := fun k_ => (w.heap.size ≤ k_)) ho0 (fun k_ hk_ => Or.elim hk_ (fun hs_ => hs_) (fun hn_ => (Nat.le_trans (below_size (by repeat (first | (with_reducible first | exact HB.out | apply below_alloc | apply pw_below_drewN | apply below_drew1) | exact HB.out))) hn_)))) (below_size (by repeat (first | (with_reducible first | exact HB.out | apply below_alloc | apply pw_below_drewN | apply below_drew1) | exact HB.out)))); have n2_ := Aside0.mk (below_step (by repeat (first | (with_reducible first | exact HB.out | apply below_alloc | apply pw_below_drewN | apply below_drew1) | exact HB.out)) hb); clear HO_9; clear HB; have HO_9 := n0_; have HO132 := n1_; have HB := n2_; clear n0_ n1_ n2_; (try clear hb); (try clear hb2); (try clear hk); (try clear hi); (try clear ho0); obtain ⟨Ao33, co33, eo33⟩ := Kd.N_slice HO132.out; subst eo33; have q34 : ((ji27) : Int) ≤ ((t130.length : Int) : Int) := of_decide_eq_true (by first | (with_reducible assumption) | assumption); obtain ⟨i034, hi034, _, hsz34, _⟩ := info_parts info43; have hcut34 := cut_to (P := Try.prog) 29 43 .i64 Try.underlying29 hi034 Ao33 t130.length co33 (ji27) (of_decide_eq_true (by first | (with_reducible assumption) | assumption)) q34 (Kd.N_reads' HO132.out).2.1; have hr34 := Kd.N_take (m := ((ji27) : Int).toNat) HO132.out (by omega); have hy34 : y133.length = ((ji27) : Int).toNat := (by rw [Ny133.out, List.length_take]; omega); rw [← Ny133.out] at hr34; rw [← hy34] at hr34 hcut34; clear hy34 hi034 hsz34 HO132; have HO135 := Aside0.mk hr34; clear hr34; replace q34 := eq_true q34))
            go_ret
            exact ⟨_, by first | rfl | (simp [errW_none, errW_some] <;> rfl) | (simp only [← hji27]; first | rfl | (simp [errW_none, errW_some] <;> rfl)) | (simp [*, errW_none, errW_some] <;> rfl), by (with_reducible repeat (first | apply Kd.N_alloc | apply Kd.N_drewN | apply Kd.N_drew)); exact HO135.out, by repeat (first | (with_reducible first | exact HB.out | apply below_alloc | apply pw_below_drewN | apply below_drew1) | exact HB.out)⟩
          · rw [if_neg c29] at H
            exact absurd H (by simp)
        · rw [if_neg c28] at H
          exact absurd H (by simp)

/-! ### block_Want: function 20 -/
def block_Want.f (k : Nat) (l0 : List (S43)) : Option (Int × Int) := (block_Right.f k l0).bind fun t148 => (if t148 = true then (if (l0.length : Int) > 0 then (if 0 ≤ (wrap64 ((l0.length : Int) - 1)) then (if (wrap64 ((l0.length : Int) - 1)) < (l0.length : Int) then ((block_expects.f (l0.length : Int) ((rd_T43 l0 (wrap64 ((l0.length : Int) - 1))).f1)).bind fun bt150 => (some (bt150.1, bt150.2))) else (none)) else (none)) else ((block_expects.f (l0.length : Int) ([] : List Int)).bind fun bt152 => (some (bt152.1, bt152.2)))) else (some (0, 0)))
theorem block_Want.mono : ∀ a0 k, LeO (block_Want.f k a0) (block_Want.f (k + 1) a0) := by
  intro a0 k
  unfold block_Want.f
  repeat' first
      | (with_reducible exact block_Right.mono _ _)
      | (with_reducible exact LeO.refl _)
      | (with_reducible exact LeO.none _)
      | (with_reducible refine LeO.ite ?_ ?_)
      | (with_reducible refine LeO.bind ?_ (fun _ => ?_))
      | exact block_Right.mono _ _
      | exact LeO.none _
      | refine LeO.ite ?_ ?_
      | refine LeO.bind ?_ (fun _ => ?_)
set_option maxHeartbeats 8000000 in
set_option maxRecDepth 100000 in
theorem block_Want.calls (k : Nat) (A0 : Option Addr) (c0 : Nat) (l0 : List (S43)) (r1 : Int) (r2 : Int) (w : World) (hr0 : Kd.C k43 w A0 l0.length l0) (hc0 : l0.length ≤ c0) (h : block_Want.f k l0 = some (r1, r2)) :
    Calls Try.prog 20 #[.slice A0 l0.length c0] w fun e w' => e = .returned (.tuple #[.int .u8 r1, .int .i64 r2]) ∧ Below w.heap.size w w' := by
  have HR0 := Aside0.mk hr0
  have HC0 := Aside0.mk hc0
  clear hr0 hc0
  have HB := Aside0.mk (Below.refl w.heap.size w)
  have H : ((block_Right.f k l0).bind fun t148 => (if t148 = true then (if (l0.length : Int) > 0 then (if 0 ≤ (wrap64 ((l0.length : Int) - 1)) then (if (wrap64 ((l0.length : Int) - 1)) < (l0.length : Int) then ((block_expects.f (l0.length : Int) ((rd_T43 l0 (wrap64 ((l0.length : Int) - 1))).f1)).bind fun bt150 => (some (bt150.1, bt150.2))) else (none)) else (none)) else ((block_expects.f (l0.length : Int) ([] : List Int)).bind fun bt152 => (some (bt152.1, bt152.2)))) else (some (0, 0)))) = some (r1, r2) := h
  clear h
  replace H := Option.bind_eq_some_iff.mp H
  obtain ⟨t148, A20, H⟩ := H
  replace H : (if t148 = true then (if (l0.length : Int) > 0 then (if 0 ≤ (wrap64 ((l0.length : Int) - 1)) then (if (wrap64 ((l0.length : Int) - 1)) < (l0.length : Int) then ((block_expects.f (l0.length : Int) ((rd_T43 l0 (wrap64 ((l0.length : Int) - 1))).f1)).bind fun bt150 => (some (bt150.1, bt150.2))) else (none)) else (none)) else ((block_expects.f (l0.length : Int) ([] : List Int)).bind fun bt152 => (some (bt152.1, bt152.2)))) else (some (0, 0))) = some (r1, r2) := H
  have A2 := Aside0.mk A20
  clear A20
  by_cases c3 : t148 = true
  · subst c3
    have H1 : (if (l0.length : Int) > 0 then (if 0 ≤ (wrap64 ((l0.length : Int) - 1)) then (if (wrap64 ((l0.length : Int) - 1)) < (l0.length : Int) then ((block_expects.f (l0.length : Int) ((rd_T43 l0 (wrap64 ((l0.length : Int) - 1))).f1)).bind fun bt150 => (some (bt150.1, bt150.2))) else (none)) else (none)) else ((block_expects.f (l0.length : Int) ([] : List Int)).bind fun bt152 => (some (bt152.1, bt152.2)))) = some (r1, r2) := by rw [if_pos rfl] at H; exact H
    clear H
    have H := H1
    clear H1
    by_cases c4 : (l0.length : Int) > 0
    · rw [if_pos c4] at H
      have c4b0 : decide (0 < (l0.length : Int)) = true := decide_eq_true c4
      have c4b1 : decide (0 < l0.length) = true := decide_eq_true (by omega)
      clear c4
      obtain ⟨ji5, hji5⟩ : ∃ j_ : Int, (wrap64 ((l0.length : Int) - 1)) = j_ := ⟨_, rfl⟩
      replace H : (if 0 ≤ (ji5) then (if (ji5) < (l0.length : Int) then ((block_expects.f (l0.length : Int) ((rd_T43 l0 (ji5)).f1)).bind fun bt150 => (some (bt150.1, bt150.2))) else (none)) else (none)) = some (r1, r2) := by first | (rw [hji5] at H; exact H) | (simp only [hji5] at H ⊢; exact H)
      (try rw [hji5] at A2)
      have hji5w : (IntKind.i64.wrap ((l0.length : Int) - 1)) = ji5 := (i64_w _).trans hji5
      by_cases c6 : 0 ≤ (ji5)
      · rw [if_pos c6] at H
        have c6b0 : decide (0 ≤ (ji5)) = true := decide_eq_true c6
        clear c6
        by_cases c7 : (ji5) < (l0.length : Int)
        · rw [if_pos c7] at H
          have c7b0 : decide ((ji5) < (l0.length : Int)) = true := decide_eq_true c7
          clear c7
          replace H := Option.bind_eq_some_iff.mp H
          obtain ⟨⟨t150, t151⟩, A80, H⟩ := H
          replace H : (some (t150, t151)) = some (r1, r2) := H
          have A8 := Aside0.mk A80
          clear A80
          simp only [Option.some.injEq, Prod.mk.injEq] at H
          obtain ⟨rfl, rfl⟩ := H
          go_enter Try.func20, Try.ntmps20
          go_wp2_with (first | ((with_reducible refine gate_callee (f := 17) rfl ?_); refine goesL_ (some 6) rfl rfl Try.func17 (by kernel_rfl) rfl #[.slice A0 l0.length c0] rfl (by (try simp only [List.map_toArray, List.map_cons, List.map_nil]); first | done | rfl | (simp only [List.length_drop, List.length_take]; rfl)) ?_; (with_reducible refine (block_Right.calls k (fun k_ => k_ < w.heap.size) _ _ l0 true _ ?side1 A2.out).mono ?_); (case side1 => exact Kd.V_mk HC0.out (Kd.F_below (Kd.C_F k43_heap HR0.out) (by repeat (first | (with_reducible first | exact HB.out | apply below_alloc | apply pw_below_drewN | apply below_drew1) | exact HB.out)))); rintro e w9 ⟨rfl, hb⟩; refine ⟨_, rfl, ?_⟩; have n0_ := Aside0.mk (below_step (by repeat (first | (with_reducible first | exact HB.out | apply below_alloc | apply pw_below_drewN | apply below_drew1) | exact HB.out)) hb); clear HB; have HB := n0_; clear n0_; (try clear hb); (try clear hb2); (try clear hk); (try clear hi); have p149 : 0 ≤ ((ji5) : Int) := of_decide_eq_true (by first | (with_reducible assumption) | assumption); have q149 : (ji5) < (l0.length : Int) := of_decide_eq_true (by first | (with_reducible assumption) | assumption); obtain ⟨ad149, A149_1, c149_1, e149, hx149_0, hx149_1, hl149_1, hi149_1⟩ := at_T43 HR0.out (ji5) p149 q149; cases e149; replace hx149_0 := (HB.out.cell (World.block_lt_of_cell? w _ hx149_0)).trans hx149_0; replace hx149_1 := (HB.out.cell (World.block_lt_of_cell? w _ hx149_1)).trans hx149_1; have HR149_1 := Aside0.mk hi149_1; have HC149_1 := Aside0.mk hl149_1; clear hi149_1 hl149_1; replace p149 := eq_true p149; replace q149 := eq_true q149) | ((with_reducible refine gate_callee (f := 28) rfl ?_); refine goesL_ (some 21) rfl rfl Try.func28 (by kernel_rfl) rfl #[.int .i64 (l0.length : Int), .slice A149_1 ((rd_T43 l0 (ji5)).f1).length c149_1] rfl (by (try simp only [List.map_toArray, List.map_cons, List.map_nil]); first | done | (simp only [hji5]; rfl) | rfl | (simp only [List.length_drop, List.length_take]; rfl)) ?_; (with_reducible refine (block_expects.calls (l0.length : Int) _ _ ((rd_T43 l0 (ji5)).f1) t150 t151 _ ?side1 ?side2 A8.out).mono ?_); (case side1 => repeat (first | exact (Kd.C_below HR149_1.out HB.out) | (with_reducible refine Kd.C_alloc ?_ _) | (with_reducible refine Kd.C_drewN ?_ _) | (with_reducible refine Kd.C_drew ?_))); (case side2 => exact HC149_1.out); rintro e w' ⟨rfl, ⟨nd, rfl⟩⟩; refine ⟨_, rfl, ?_⟩))
          go_ret2
          exact ⟨by first | rfl | (simp [errW_none, errW_some] <;> rfl) | (simp only [← hji5]; first | rfl | (simp [errW_none, errW_some] <;> rfl)) | (simp [*, errW_none, errW_some] <;> rfl), by repeat (first | (with_reducible first | exact HB.out | apply below_alloc | apply pw_below_drewN | apply below_drew1) | exact HB.out)⟩
        · rw [if_neg c7] at H
          exact absurd H (by simp)
      · rw [if_neg c6] at H
        exact absurd H (by simp)
    · rw [if_neg c4] at H
      have c4b0 : decide (0 < (l0.length : Int)) = false := decide_eq_false c4
      have c4b1 : decide (0 < l0.length) = false := decide_eq_false (by omega)
      clear c4
      replace H := Option.bind_eq_some_iff.mp H
      obtain ⟨⟨t152, t153⟩, A100, H⟩ := H
      replace H : (some (t152, t153)) = some (r1, r2) := H
      have A10 := Aside0.mk A100
      clear A100
      simp only [Option.some.injEq, Prod.mk.injEq] at H
      obtain ⟨rfl, rfl⟩ := H
      go_enter Try.func20, Try.ntmps20
      go_wp2_with (first | ((with_reducible refine gate_callee (f := 17) rfl ?_); refine goesL_ (some 6) rfl rfl Try.func17 (by kernel_rfl) rfl #[.slice A0 l0.length c0] rfl (by (try simp only [List.map_toArray, List.map_cons, List.map_nil]); first | done | rfl | (simp only [List.length_drop, List.length_take]; rfl)) ?_; (with_reducible refine (block_Right.calls k (fun k_ => k_ < w.heap.size) _ _ l0 true _ ?side1 A2.out).mono ?_); (case side1 => exact Kd.V_mk HC0.out (Kd.F_below (Kd.C_F k43_heap HR0.out) (by repeat (first | (with_reducible first | exact HB.out | apply below_alloc | apply pw_below_drewN | apply below_drew1) | exact HB.out)))); rintro e w11 ⟨rfl, hb⟩; refine ⟨_, rfl, ?_⟩; have n0_ := Aside0.mk (below_step (by repeat (first | (with_reducible first | exact HB.out | apply below_alloc | apply pw_below_drewN | apply below_drew1) | exact HB.out)) hb); clear HB; have HB := n0_; clear n0_; (try clear hb); (try clear hb2); (try clear hk); (try clear hi)) | ((with_reducible refine gate_callee (f := 28) rfl ?_); refine goesL_ (some 21) rfl rfl Try.func28 (by kernel_rfl) rfl #[.int .i64 (l0.length : Int), .slice none 0 0] rfl (by (try simp only [List.map_toArray, List.map_cons, List.map_nil]); first | done | rfl | (simp only [List.length_drop, List.length_take]; rfl)) ?_; (refine (block_expects.calls (l0.length : Int) _ _ ([] : List Int) t152 t153 _ ?side1 ?side2 A10.out).mono ?_); (case side1 => exact Kd.C_nil _ _); (case side2 => exact Nat.le_refl _); rintro e w' ⟨rfl, ⟨nd, rfl⟩⟩; refine ⟨_, rfl, ?_⟩))
      go_ret2
      exact ⟨by first | rfl | (simp [errW_none, errW_some] <;> rfl) | (simp [*, errW_none, errW_some] <;> rfl), by repeat (first | (with_reducible first | exact HB.out | apply below_alloc | apply pw_below_drewN | apply below_drew1) | exact HB.out)⟩
  · replace c3 := Bool.eq_false_iff.mpr c3
    subst c3
    have H1 : (some (0, 0)) = some (r1, r2) := by rw [if_neg (show ¬ (false = true) by decide)] at H; exact H
    clear H
    have H := H1
    clear H1
    simp only [Option.some.injEq, Prod.mk.injEq] at H
    obtain ⟨rfl, rfl⟩ := H
    go_enter Try.func20, Try.ntmps20
    go_wp2_with (first | ((with_reducible refine gate_callee (f := 17) rfl ?_); refine goesL_ (some 6) rfl rfl Try.func17 (by kernel_rfl) rfl #[.slice A0 l0.length c0] rfl (by (try simp only [List.map_toArray, List.map_cons, List.map_nil]); first | done | rfl | (simp only [List.length_drop, List.length_take]; rfl)) ?_; (with_reducible refine (block_Right.calls k (fun k_ => k_ < w.heap.size) _ _ l0 false _ ?side1 A2.out).mono ?_); (case side1 => exact Kd.V_mk HC0.out (Kd.F_below (Kd.C_F k43_heap HR0.out) (by repeat (first | (with_reducible first | exact HB.out | apply below_alloc | apply pw_below_drewN | apply below_drew1) | exact HB.out)))); rintro e w12 ⟨rfl, hb⟩; refine ⟨_, rfl, ?_⟩; have n0_ := Aside0.mk (below_step (by repeat (first | (with_reducible first | exact HB.out | apply below_alloc | apply pw_below_drewN | apply below_drew1) | exact HB.out)) hb); clear HB; have HB := n0_; clear n0_; (try clear hb); (try clear hb2); (try clear hk); (try clear hi)))
    go_ret2
    exact ⟨by first | rfl | (simp [errW_none, errW_some] <;> rfl) | (simp [*, errW_none, errW_some] <;> rfl), by repeat (first | (with_reducible first | exact HB.out | apply below_alloc | apply pw_below_drewN | apply below_drew1) | exact HB.out)⟩

/-! ### kotatsuref05_Kind: function 30 -/
def kotatsuref05_Kind.f (a0 : Int) : Option (Int) := if a0 < 2 then (some ((wrap64 (a0 + 1)) % 256)) else (some ((wrap64 (3 + (Int.tmod a0 2))) % 256))
set_option maxHeartbeats 8000000 in
set_option maxRecDepth 100000 in
theorem kotatsuref05_Kind.calls (a0 : Int) (r : Int) (w : World) (h : kotatsuref05_Kind.f a0 = some r) :
    Calls Try.prog 30 #[.int .i64 a0] w fun e w' => e = .returned (.int .u8 r) ∧ Drawn0 w w' := by
  have H : (if a0 < 2 then (some ((wrap64 (a0 + 1)) % 256)) else (some ((wrap64 (3 + (Int.tmod a0 2))) % 256))) = some r := h
  clear h
  by_cases c2 : a0 < 2
  · rw [if_pos c2] at H
    have c2b0 : decide (a0 < 2) = true := decide_eq_true c2
    clear c2
    obtain rfl := Option.some.inj H
    go_enter Try.func30, Try.ntmps30
    go_wp2
    go_ret
    exact ⟨by first | rfl | (simp; done) | (simp [*]; done), by repeat (first | exact Drawn0.refl _ | apply Drawn0.step)⟩
  · rw [if_neg c2] at H
    have c2b0 : decide (a0 < 2) = false := decide_eq_false c2
    clear c2
    obtain rfl := Option.some.inj H
    go_enter Try.func30, Try.ntmps30
    go_wp2
    go_ret
    exact ⟨by first | rfl | (simp; done) | (simp [*]; done), by repeat (first | exact Drawn0.refl _ | apply Drawn0.step)⟩

end Go.Proofs.Ytgpgoffnfdjhcaa.PBlockWants
