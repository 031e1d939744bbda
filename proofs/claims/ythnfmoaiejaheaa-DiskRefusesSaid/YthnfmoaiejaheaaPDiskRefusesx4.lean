-- made by a program of this repo (wip/patch_print.py); not trusted: Lean checks it
import Derived.Test.YthnfmoaiejaheaaPDiskRefusesx0
import Derived.Test.YthnfmoaiejaheaaPDiskRefusesx1
import Derived.Test.YthnfmoaiejaheaaPDiskRefusesx3
-- squeezed
namespace Go.Proofs.Ythnfmoaiejaheaa.PDiskRefuses
open Go.RowKit Go.Proofs.YthnfmoaiejaheaaW.PrintWords Go.Proofs.YthnfmoaiejaheaaW.PrintLast Go.Proofs.YthnfmoaiejaheaaW.PrintMore
attribute [local go_sem] max2_int min2_int max_two min_two max_three min_three max_four min_four   -- for this text's walks alone
set_option linter.unusedVariables false
set_option linter.unusedSimpArgs false

/-! ### block_Size: function 46 -/
def block_Size.l0 : Nat → Int → List (S73) → Int → Int → Option (Int)
 | 0, _, _, _, _ => none
 | k + 1, x3, x6, x7, x8 => if x8 < x7 then (if 0 ≤ x8 then (if x8 < (x6.length : Int) then (block_Size.l0 k (wrap64 (x3 + (wrap64 (1 + (((rd_T73 x6 x8).f1).length : Int))))) x6 x7 (wrap64 (x8 + 1))) else (none)) else (none)) else (some x3)
def block_Size.f (k : Nat) (l0 : List (S73)) : Option (Int) := block_Size.l0 k 0 l0 (l0.length : Int) 0
set_option maxHeartbeats 8000000 in
set_option maxRecDepth 100000 in
theorem block_Size.calls (k : Nat) (A0 : Option Addr) (c0 : Nat) (l0 : List (S73)) (r : Int) (w : World) (hr0 : Kd.C k73 w A0 l0.length l0) (hc0 : l0.length ≤ c0) (h : block_Size.f k l0 = some r) :
  Calls Try.prog 46 #[.slice A0 l0.length c0] w fun e w' => e = .returned (.int .i64 r) ∧ Below w.heap.size w w' := by
 have hu73 := Try.underlying73
 have HR0 := Aside0.mk hr0
 have HC0 := Aside0.mk hc0
 clear hr0 hc0
 have HB := Aside0.mk (Below.refl w.heap.size w)
 have H : (block_Size.l0 k 0 l0 (l0.length : Int) 0) = some r := h
 clear h
 have H' := Aside0.mk H
 clear H
 go_enter Try.func46, Try.ntmps46
 go_wp2
 go_loopg [3, 8] k (fun kq v3 v8 w' => ∃ (x3_1 : Int) (x8_1 : Int), v3 = .int .i64 x3_1 ∧ v8 = .int .i64 x8_1 ∧ Aside0 (block_Size.l0 kq x3_1 l0 (l0.length : Int) x8_1 = some r) ∧ Aside0 (kq ≤ k) ∧ Aside0 (Below w.heap.size w w'))
 case atStart => exact ⟨(0), (0), (by first | rfl | (simp; done) | (simp [*]; done)), (by first | rfl | (simp; done) | (simp [*]; done)), H', ⟨Nat.le_refl _⟩, ⟨by repeat (first | (with_reducible first | exact HB.out | apply below_alloc | apply pw_below_drewN | apply below_drew1) | exact HB.out)⟩⟩
 case round =>
  clear H'
  obtain ⟨x3_1, x8_1, rfl, rfl, HA, HK1, HB⟩ := hrel
  cases gk with
  | zero => exact absurd HA.out (by simp [block_Size.l0])
  | succ k1 =>
   have H := HA.out
   clear HA
   simp only [block_Size.l0] at H
   by_cases c2 : x8_1 < (l0.length : Int)
   ·rw [if_pos c2] at H
    have c2b0 : decide (x8_1 < (l0.length : Int)) = true := decide_eq_true c2
    clear c2
    by_cases c3 : 0 ≤ x8_1
    ·rw [if_pos c3] at H
     have c3b0 : decide (0 ≤ x8_1) = true := decide_eq_true c3
     clear c3
     by_cases c4 : x8_1 < (l0.length : Int)
     ·rw [if_pos c4] at H
      have c4b0 : decide (x8_1 < (l0.length : Int)) = true := decide_eq_true c4
      clear c4
      have H' := Aside0.mk H
      clear H
      have p149 : 0 ≤ (x8_1 : Int) := of_decide_eq_true (by first | (with_reducible assumption) | assumption)
      have q149 : x8_1 < (l0.length : Int) := of_decide_eq_true (by first | (with_reducible assumption) | assumption)
      obtain ⟨ad149, A149_1, c149_1, e149, hx149_0, hx149_1, hl149_1, hi149_1⟩ := at_T73 HR0.out x8_1 p149 q149
      cases e149
      replace hx149_0 := (HB.out.cell (World.block_lt_of_cell? w _ hx149_0)).trans hx149_0
      replace hx149_1 := (HB.out.cell (World.block_lt_of_cell? w _ hx149_1)).trans hx149_1
      have HR149_1 := Aside0.mk hi149_1
      have HC149_1 := Aside0.mk hl149_1
      clear hi149_1 hl149_1
      replace p149 := eq_true p149
      replace q149 := eq_true q149
      go_wp2_with (first | ((with_reducible refine gate_dst (N := 5) rfl ?_); refine box_event ?hg (N := 5) ?hd (cs := #[.int .u8 0, .slice none 0 0]) (t := 73) ?hr ?_; (case hd => rfl); (case hg => rfl); (case hr => first | (go_simp; done) | (go_simp; rfl)); intro gb150 hg w5 hbox hb; have n0_ := Aside0.mk (below_step (by repeat (first | (with_reducible first | exact HB.out | apply below_alloc | apply pw_below_drewN | apply below_drew1) | exact HB.out)) hb); have n1_ := Aside0.mk (hbox); have n2_ := Aside0.mk ((by rw [hg]; exact (below_size (by repeat (first | (with_reducible first | exact HB.out | apply below_alloc | apply pw_below_drewN | apply below_drew1) | exact HB.out))) : w.heap.size ≤ gb150)); have n3_ := Aside0.mk ((by rw [hg]; exact (below_size (by repeat (first | (with_reducible first | exact HB.out | apply below_alloc | apply pw_below_drewN | apply below_drew1) | exact HB.out))) : w.heap.size ≤ gb150)); clear HB; have HB := n0_; have BK150 := n1_; have GW150 := n2_; have GE150 := n3_; clear n0_ n1_ n2_ n3_; clear hb hbox hg; have hcz6_0 : w5.cell? ⟨gb150, 0, none⟩ = some (.int .u8 0) := (blk_cell BK150.out 0).trans rfl; have hcz6_1 : w5.cell? ⟨gb150, 1, none⟩ = some (.slice none 0 0) := (blk_cell BK150.out 1).trans rfl; have hfz6_0 := blk_frozen BK150.out 0; have hfz6_1 := blk_frozen BK150.out 1))
      go_roundg k1
      case measure => have := HK1.out; omega
      case rel => exact ⟨(wrap64 (x3_1 + (wrap64 (1 + (((rd_T73 l0 x8_1).f1).length : Int))))), (wrap64 (x8_1 + 1)), (by first | rfl | (simp; done) | (simp [*]; done)), (by first | rfl | (simp; done) | (simp [*]; done)), H', ⟨by have := HK1.out; omega⟩, ⟨by repeat (first | (with_reducible first | exact HB.out | apply below_alloc | apply pw_below_drewN | apply below_drew1 | refine below_set ?_ GE150.out) | exact HB.out)⟩⟩
     ·rw [if_neg c4] at H
      exact absurd H (by simp)
    ·rw [if_neg c3] at H
     exact absurd H (by simp)
   ·rw [if_neg c2] at H
    have c2b0 : decide (x8_1 < (l0.length : Int)) = false := decide_eq_false c2
    clear c2
    obtain rfl := Option.some.inj H
    go_wp2
    go_ret
    exact ⟨by first | rfl | (simp [errW_none, errW_some] <;> rfl) | (simp [*, errW_none, errW_some] <;> rfl), by repeat (first | (with_reducible first | exact HB.out | apply below_alloc | apply pw_below_drewN | apply below_drew1) | exact HB.out)⟩

/-! ### disk_Wrap: function 24 -/
mutual
def disk_Wrap.j0 : Nat → List (S73) → Bool → Option (List Int × Bool)
 | 0, _, _ => none
 | k + 1, x0, x20 => if x20 = true then (some (([] : List Int), false)) else (disk_Wrap.l0 k ([] : List Int) x0 (x0.length : Int) 0)
def disk_Wrap.l0 : Nat → List Int → List (S73) → Int → Int → Option (List Int × Bool)
 | 0, _, _, _, _ => none
 | k + 1, x4, x21, x22, x23 => if x23 < x22 then (if 0 ≤ x23 then (if x23 < (x21.length : Int) then ((some (([(rd_T73 x21 x23).f0] : List Int) : List Int)).bind fun y155 => (if y155.length + ((rd_T73 x21 x23).f1).length < 140737488355328 then ((some (y155 ++ ((rd_T73 x21 x23).f1) : List Int)).bind fun y158 => ((seal_Short.f k y158).bind fun t161 => (if x4.length + y158.length < 140737488355328 then ((some (x4 ++ y158 : List Int)).bind fun y162 => ((some (([(t161) % 256, (t161 / 256) % 256] : List Int) : List Int)).bind fun y165 => (if y162.length + y165.length < 140737488355328 then (disk_Wrap.l0 k (y162 ++ y165) x21 x22 (wrap64 (x23 + 1))) else (none)))) else (none)))) else (none))) else (none)) else (none)) else (if 0 ≤ (wrap64 (65536 - (x4.length : Int))) then (if x4.length + (wrap64 (65536 - (x4.length : Int)) : Int).toNat < 140737488355328 then (some ((x4 ++ List.replicate (wrap64 (65536 - (x4.length : Int)) : Int).toNat 0), true)) else (none)) else (none))
end
def disk_Wrap.f (k : Nat) (l0 : List (S73)) : Option (List Int × Bool) := (block_Right.f k l0).bind fun t151 => (if t151 = true then ((block_Size.f k l0).bind fun t152 => (disk_Wrap.j0 k l0 (decide ((wrap64 (t152 + (wrap64 (2 * (l0.length : Int))))) > 65536)))) else (disk_Wrap.j0 k l0 true))
set_option maxHeartbeats 8000000 in
set_option maxRecDepth 100000 in
theorem disk_Wrap.calls (k : Nat) (A0 : Option Addr) (c0 : Nat) (l0 : List (S73)) (r1 : List Int) (r2 : Bool) (w : World) (hr0 : Kd.C k73 w A0 l0.length l0) (hc0 : l0.length ≤ c0) (h : disk_Wrap.f k l0 = some (r1, r2)) :
  Calls Try.prog 24 #[.slice A0 l0.length c0] w fun e w' => ∃ v0_ : Value, e = .returned (.tuple #[v0_, .bool r2]) ∧ Kd.R (Kd.int .u8) 5 w' w.heap.size (fun _ => True) v0_ r1 ∧ Below w.heap.size w w' := by
 have hu73 := Try.underlying73
 have HR0 := Aside0.mk hr0
 have HC0 := Aside0.mk hc0
 clear hr0 hc0
 have HB := Aside0.mk (Below.refl w.heap.size w)
 have H : ((block_Right.f k l0).bind fun t151 => (if t151 = true then ((block_Size.f k l0).bind fun t152 => (disk_Wrap.j0 k l0 (decide ((wrap64 (t152 + (wrap64 (2 * (l0.length : Int))))) > 65536)))) else (disk_Wrap.j0 k l0 true))) = some (r1, r2) := h
 clear h
 have HC2 := Aside0.mk H
 clear H
 go_enter Try.func24, Try.ntmps24
 go_upto_region 1 with (fail)
 go_cut [20] (fun v20 wc => ∃ (kq : Nat) (x20_1 : Bool), v20 = .bool x20_1 ∧ Aside0 (disk_Wrap.j0 kq l0 x20_1 = some (r1, r2)) ∧ Aside0 (kq ≤ k) ∧ Aside0 (Below w.heap.size w wc))
 case first =>
  have H := HC2.out
  clear HC2
  replace H := Option.bind_eq_some_iff.mp H
  obtain ⟨t151, A30, H⟩ := H
  replace H : (if t151 = true then ((block_Size.f k l0).bind fun t152 => (disk_Wrap.j0 k l0 (decide ((wrap64 (t152 + (wrap64 (2 * (l0.length : Int))))) > 65536)))) else (disk_Wrap.j0 k l0 true)) = some (r1, r2) := H
  have A3 := Aside0.mk A30
  clear A30
  by_cases c4 : t151 = true
  ·subst c4
   have H1 : ((block_Size.f k l0).bind fun t152 => (disk_Wrap.j0 k l0 (decide ((wrap64 (t152 + (wrap64 (2 * (l0.length : Int))))) > 65536)))) = some (r1, r2) := by rw [if_pos rfl] at H; exact H
   clear H
   have H := H1
   clear H1
   replace H := Option.bind_eq_some_iff.mp H
   obtain ⟨t152, A50, H⟩ := H
   replace H : (disk_Wrap.j0 k l0 (decide ((wrap64 (t152 + (wrap64 (2 * (l0.length : Int))))) > 65536))) = some (r1, r2) := H
   have A5 := Aside0.mk A50
   clear A50
   have H' := Aside0.mk H
   clear H
   go_wp2_with (first | ((with_reducible refine gate_callee (f := 45) rfl ?_); refine goesL_ (some 10) rfl rfl Try.func45 (by kernel_rfl) rfl #[.slice A0 l0.length c0] rfl (by (try simp only [List.map_toArray, List.map_cons, List.map_nil]); first | done | rfl | (simp only [List.length_drop, List.length_take]; rfl)) ?_; (with_reducible refine (block_Right.calls k (fun k_ => k_ < w.heap.size) _ _ l0 true _ ?side1 A3.out).mono ?_); (case side1 => exact Kd.V_mk HC0.out (Kd.F_below (Kd.C_F k73_heap HR0.out) (by repeat (first | (with_reducible first | exact HB.out | apply below_alloc | apply pw_below_drewN | apply below_drew1) | exact HB.out)))); rintro e w6 ⟨rfl, hb⟩; refine ⟨_, rfl, ?_⟩; have n0_ := Aside0.mk (below_step (by repeat (first | (with_reducible first | exact HB.out | apply below_alloc | apply pw_below_drewN | apply below_drew1) | exact HB.out)) hb); clear HB; have HB := n0_; clear n0_; (try clear hb); (try clear hb2); (try clear hk); (try clear hi)) | (go_at_call 46; (with_reducible refine (block_Size.calls k _ _ l0 t152 _ ?side1 ?side2 A5.out).mono ?_); (case side1 => repeat (first | exact (Kd.C_below HR0.out HB.out) | (with_reducible refine Kd.C_alloc ?_ _) | (with_reducible refine Kd.C_drewN ?_ _) | (with_reducible refine Kd.C_drew ?_))); (case side2 => exact HC0.out); rintro e w7 ⟨rfl, hb⟩; have n0_ := Aside0.mk (below_step (by repeat (first | (with_reducible first | exact HB.out | apply below_alloc | apply pw_below_drewN | apply below_drew1) | exact HB.out)) hb); clear HB; have HB := n0_; clear n0_; (try clear hb); (try clear hb2); (try clear hk); (try clear hi)))
   go_meet
   case rel => exact ⟨_, (decide ((wrap64 (t152 + (wrap64 (2 * (l0.length : Int))))) > 65536)), (by first | rfl | (simp; done) | (simp [*]; done)), H', ⟨by first | omega | exact Nat.le_refl _⟩, ⟨by repeat (first | (with_reducible first | exact HB.out | apply below_alloc | apply pw_below_drewN | apply below_drew1) | exact HB.out)⟩⟩
  ·replace c4 := Bool.eq_false_iff.mpr c4
   subst c4
   have H1 : (disk_Wrap.j0 k l0 true) = some (r1, r2) := by rw [if_neg (show ¬ (false = true) by decide)] at H; exact H
   clear H
   have H := H1
   clear H1
   have H' := Aside0.mk H
   clear H
   go_wp2_with (first | ((with_reducible refine gate_callee (f := 45) rfl ?_); refine goesL_ (some 10) rfl rfl Try.func45 (by kernel_rfl) rfl #[.slice A0 l0.length c0] rfl (by (try simp only [List.map_toArray, List.map_cons, List.map_nil]); first | done | rfl | (simp only [List.length_drop, List.length_take]; rfl)) ?_; (with_reducible refine (block_Right.calls k (fun k_ => k_ < w.heap.size) _ _ l0 false _ ?side1 A3.out).mono ?_); (case side1 => exact Kd.V_mk HC0.out (Kd.F_below (Kd.C_F k73_heap HR0.out) (by repeat (first | (with_reducible first | exact HB.out | apply below_alloc | apply pw_below_drewN | apply below_drew1) | exact HB.out)))); rintro e w8 ⟨rfl, hb⟩; refine ⟨_, rfl, ?_⟩; have n0_ := Aside0.mk (below_step (by repeat (first | (with_reducible first | exact HB.out | apply below_alloc | apply pw_below_drewN | apply below_drew1) | exact HB.out)) hb); clear HB; have HB := n0_; clear n0_; (try clear hb); (try clear hb2); (try clear hk); (try clear hi)))
   go_meet
   case rel => exact ⟨_, (true), (by first | rfl | (simp; done) | (simp [*]; done)), H', ⟨by first | omega | exact Nat.le_refl _⟩, ⟨by repeat (first | (with_reducible first | exact HB.out | apply below_alloc | apply pw_below_drewN | apply below_drew1) | exact HB.out)⟩⟩
 case rest =>
  clear HC2
  try clear c2
  try clear p2
  try clear c4
  try clear p6
  obtain ⟨kq, x20_1, rfl, HA, HJ1, HB⟩ := hcut
  cases kq with
  | zero => exact absurd HA.out (by simp [disk_Wrap.j0])
  | succ kj1 =>
   have H := HA.out
   clear HA
   simp only [disk_Wrap.j0] at H
   by_cases c9 : x20_1 = true
   ·subst c9
    have H1 : (some (([] : List Int), false)) = some (r1, r2) := by rw [if_pos rfl] at H; exact H
    clear H
    have H := H1
    clear H1
    simp only [Option.some.injEq, Prod.mk.injEq] at H
    obtain ⟨rfl, rfl⟩ := H
    go_wp2
    go_ret2
    exact ⟨_, by first | rfl | (simp [errW_none, errW_some] <;> rfl) | (simp [*, errW_none, errW_some] <;> rfl), by first | exact Kd.R_nil _ _ _ _ _ | exact Kd.N_nil _ _ _ _ _ | exact Kd.V_nil _ _ _ _ _ | exact Kd.Q_nil _ _ _ _ _ | exact Kd.S_nil _ _ _ _ _, by repeat (first | (with_reducible first | exact HB.out | apply below_alloc | apply pw_below_drewN | apply below_drew1) | exact HB.out)⟩
   ·replace c9 := Bool.eq_false_iff.mpr c9
    subst c9
    have H1 : (disk_Wrap.l0 kj1 ([] : List Int) l0 (l0.length : Int) 0) = some (r1, r2) := by rw [if_neg (show ¬ (false = true) by decide)] at H; exact H
    clear H
    have H := H1
    clear H1
    have H' := Aside0.mk H
    clear H
    go_wp2
    go_loopg [4, 23] kj1 (fun kq v4 v23 w' => ∃ (x4_2 : List Int) (x23_2 : Int), v23 = .int .i64 x23_2 ∧ Aside0 (disk_Wrap.l0 kq x4_2 l0 (l0.length : Int) x23_2 = some (r1, r2)) ∧ Aside0 (kq ≤ kj1) ∧ Aside0 (Kd.R (Kd.int .u8) 5 w' w.heap.size (fun _ => True) v4 x4_2) ∧ Aside0 (Below w.heap.size w w'))
    case atStart => exact ⟨(([] : List Int)), (0), (by first | rfl | (simp; done) | (simp [*]; done)), H', ⟨Nat.le_refl _⟩, ⟨by first | exact Kd.R_nil _ _ _ _ _ | exact Kd.N_nil _ _ _ _ _ | exact Kd.V_nil _ _ _ _ _ | exact Kd.Q_nil _ _ _ _ _ | exact Kd.S_nil _ _ _ _ _⟩, ⟨by repeat (first | (with_reducible first | exact HB.out | apply below_alloc | apply pw_below_drewN | apply below_drew1) | exact HB.out)⟩⟩
    case round =>
     clear H'
     try clear c2
     try clear p2
     try clear c4
     try clear p6
     try clear c9
     try clear p2
     try clear p6
     obtain ⟨x4_2, x23_2, rfl, HA, HK2, HO_4, HB⟩ := hrel
     cases gk with
     | zero => exact absurd HA.out (by simp [disk_Wrap.l0])
     | succ k2 =>
      have H := HA.out
      clear HA
      simp only [disk_Wrap.l0] at H
      by_cases c10 : x23_2 < (l0.length : Int)
      ·rw [if_pos c10] at H
       have c10b0 : decide (x23_2 < (l0.length : Int)) = true := decide_eq_true c10
       clear c10
       by_cases c11 : 0 ≤ x23_2
       ·rw [if_pos c11] at H
        have c11b0 : decide (0 ≤ x23_2) = true := decide_eq_true c11
        clear c11
        by_cases c12 : x23_2 < (l0.length : Int)
        ·rw [if_pos c12] at H
         have c12b0 : decide (x23_2 < (l0.length : Int)) = true := decide_eq_true c12
         clear c12
         obtain ⟨y155, hy155⟩ : ∃ y_ : List Int, y_ = (([(rd_T73 l0 x23_2).f0] : List Int)) := ⟨_, rfl⟩
         replace H : (if y155.length + ((rd_T73 l0 x23_2).f1).length < 140737488355328 then ((some (y155 ++ ((rd_T73 l0 x23_2).f1) : List Int)).bind fun y158 => ((seal_Short.f k2 y158).bind fun t161 => (if x4_2.length + y158.length < 140737488355328 then ((some (x4_2 ++ y158 : List Int)).bind fun y162 => ((some (([(t161) % 256, (t161 / 256) % 256] : List Int) : List Int)).bind fun y165 => (if y162.length + y165.length < 140737488355328 then (disk_Wrap.l0 k2 (y162 ++ y165) l0 (l0.length : Int) (wrap64 (x23_2 + 1))) else (none)))) else (none)))) else (none)) = some (r1, r2) := by first | (rw [hy155]; with_reducible exact H) | (have H2_ := (Option.bind_some _ _).symm.trans H; rw [hy155]; with_reducible exact H2_) | (have H2_ := (Option.bind_some _ _).symm.trans H; with_reducible exact H2_) | with_reducible exact H | (rw [hy155]; exact H) | exact H
         have Ny155 := Aside0.mk hy155
         clear hy155
         by_cases c13 : y155.length + ((rd_T73 l0 x23_2).f1).length < 140737488355328
         ·rw [if_pos c13] at H
          have LMc13 := Aside0.mk c13
          clear c13
          obtain ⟨y158, hy158⟩ : ∃ y_ : List Int, y_ = (y155 ++ ((rd_T73 l0 x23_2).f1)) := ⟨_, rfl⟩
          replace H : ((seal_Short.f k2 y158).bind fun t161 => (if x4_2.length + y158.length < 140737488355328 then ((some (x4_2 ++ y158 : List Int)).bind fun y162 => ((some (([(t161) % 256, (t161 / 256) % 256] : List Int) : List Int)).bind fun y165 => (if y162.length + y165.length < 140737488355328 then (disk_Wrap.l0 k2 (y162 ++ y165) l0 (l0.length : Int) (wrap64 (x23_2 + 1))) else (none)))) else (none))) = some (r1, r2) := by first | (rw [hy158]; with_reducible exact H) | (have H2_ := (Option.bind_some _ _).symm.trans H; rw [hy158]; with_reducible exact H2_) | (have H2_ := (Option.bind_some _ _).symm.trans H; with_reducible exact H2_) | with_reducible exact H | (rw [hy158]; exact H) | exact H
          have Ny158 := Aside0.mk hy158
          clear hy158
          replace H := Option.bind_eq_some_iff.mp H
          obtain ⟨t161, A140, H⟩ := H
          replace H : (if x4_2.length + y158.length < 140737488355328 then ((some (x4_2 ++ y158 : List Int)).bind fun y162 => ((some (([(t161) % 256, (t161 / 256) % 256] : List Int) : List Int)).bind fun y165 => (if y162.length + y165.length < 140737488355328 then (disk_Wrap.l0 k2 (y162 ++ y165) l0 (l0.length : Int) (wrap64 (x23_2 + 1))) else (none)))) else (none)) = some (r1, r2) := H
          have A14 := Aside0.mk A140
          clear A140
          by_cases c15 : x4_2.length + y158.length < 140737488355328
          ·rw [if_pos c15] at H
           have LMc15 := Aside0.mk c15
           clear c15
           obtain ⟨y162, hy162⟩ : ∃ y_ : List Int, y_ = (x4_2 ++ y158) := ⟨_, rfl⟩
           replace H : ((some (([(t161) % 256, (t161 / 256) % 256] : List Int) : List Int)).bind fun y165 => (if y162.length + y165.length < 140737488355328 then (disk_Wrap.l0 k2 (y162 ++ y165) l0 (l0.length : Int) (wrap64 (x23_2 + 1))) else (none))) = some (r1, r2) := by first | (rw [hy162]; with_reducible exact H) | (have H2_ := (Option.bind_some _ _).symm.trans H; rw [hy162]; with_reducible exact H2_) | (have H2_ := (Option.bind_some _ _).symm.trans H; with_reducible exact H2_) | with_reducible exact H | (rw [hy162]; exact H) | exact H
           have Ny162 := Aside0.mk hy162
           clear hy162
           obtain ⟨y165, hy165⟩ : ∃ y_ : List Int, y_ = (([(t161) % 256, (t161 / 256) % 256] : List Int)) := ⟨_, rfl⟩
           replace H : (if y162.length + y165.length < 140737488355328 then (disk_Wrap.l0 k2 (y162 ++ y165) l0 (l0.length : Int) (wrap64 (x23_2 + 1))) else (none)) = some (r1, r2) := by first | (rw [hy165]; with_reducible exact H) | (have H2_ := (Option.bind_some _ _).symm.trans H; rw [hy165]; with_reducible exact H2_) | (have H2_ := (Option.bind_some _ _).symm.trans H; with_reducible exact H2_) | with_reducible exact H | (rw [hy165]; exact H) | exact H
           have Ny165 := Aside0.mk hy165
           clear hy165
           by_cases c16 : y162.length + y165.length < 140737488355328
           ·rw [if_pos c16] at H
            have LMc16 := Aside0.mk c16
            clear c16
            obtain ⟨y168, hy168⟩ : ∃ y_ : List Int, y_ = (y162 ++ y165) := ⟨_, rfl⟩
            replace H : (disk_Wrap.l0 k2 y168 l0 (l0.length : Int) (wrap64 (x23_2 + 1))) = some (r1, r2) := by first | (rw [hy168]; with_reducible exact H) | (have H2_ := (Option.bind_some _ _).symm.trans H; rw [hy168]; with_reducible exact H2_) | (have H2_ := (Option.bind_some _ _).symm.trans H; with_reducible exact H2_) | with_reducible exact H | (rw [hy168]; exact H) | exact H
            have Ny168 := Aside0.mk hy168
            clear hy168
            have H' := Aside0.mk H
            clear H
            have p153 : 0 ≤ (x23_2 : Int) := of_decide_eq_true (by first | (with_reducible assumption) | assumption)
            have q153 : x23_2 < (l0.length : Int) := of_decide_eq_true (by first | (with_reducible assumption) | assumption)
            obtain ⟨ad153, A153_1, c153_1, e153, hx153_0, hx153_1, hl153_1, hi153_1⟩ := at_T73 HR0.out x23_2 p153 q153
            cases e153
            replace hx153_0 := (HB.out.cell (World.block_lt_of_cell? w _ hx153_0)).trans hx153_0
            replace hx153_1 := (HB.out.cell (World.block_lt_of_cell? w _ hx153_1)).trans hx153_1
            have HR153_1 := Aside0.mk hi153_1
            have HC153_1 := Aside0.mk hl153_1
            clear hi153_1 hl153_1
            replace p153 := eq_true p153
            replace q153 := eq_true q153
            go_wp2_with (first | ((with_reducible refine gate_dst (N := 6) rfl ?_); (try (refine gate_guard (by rfl) ?_; dsimp only)); refine box_event ?hg (N := 6) ?hd (cs := #[.int .u8 0, .slice none 0 0]) (t := 73) ?hr ?_; (case hd => rfl); (case hg => rfl); (case hr => first | (go_simp; done) | (go_simp; rfl)); intro gb154 hg w17 hbox hb; have n0_ := Aside0.mk (Kd.R_below (by (with_reducible repeat (first | apply Kd.R_alloc | apply Kd.R_drewN | apply Kd.R_drew)); exact HO_4.out) hb); have n1_ := Aside0.mk (below_step (by repeat (first | (with_reducible first | exact HB.out | apply below_alloc | apply pw_below_drewN | apply below_drew1) | exact HB.out)) hb); have n2_ := Aside0.mk (hbox); have n3_ := Aside0.mk ((by rw [hg]; exact (below_size (by repeat (first | (with_reducible first | exact HB.out | apply below_alloc | apply pw_below_drewN | apply below_drew1) | exact HB.out))) : w.heap.size ≤ gb154)); have n4_ := Aside0.mk ((by rw [hg]; exact (below_size (by repeat (first | (with_reducible first | exact HB.out | apply below_alloc | apply pw_below_drewN | apply below_drew1) | exact HB.out))) : w.heap.size ≤ gb154)); clear HO_4; clear HB; have HO_4 := n0_; have HB := n1_; have BK154 := n2_; have GW154 := n3_; have GE154 := n4_; clear n0_ n1_ n2_ n3_ n4_; clear hb hbox hg; have hcz18_0 : w17.cell? ⟨gb154, 0, none⟩ = some (.int .u8 0) := (blk_cell BK154.out 0).trans rfl; have hcz18_1 : w17.cell? ⟨gb154, 1, none⟩ = some (.slice none 0 0) := (blk_cell BK154.out 1).trans rfl; have hfz18_0 := blk_frozen BK154.out 0; have hfz18_1 := blk_frozen BK154.out 1) | ((with_reducible refine gate_dst (N := 29) rfl ?_); (try (refine gate_guard (by rfl) ?_; dsimp only)); refine Kd.R_lit (Kd.int .u8) _ 5 ?hg (N := 29) ?hd (xs := ([(rd_T73 l0 x23_2).f0] : List Int)) (inner := [.int .u8 ((rd_T73 l0 x23_2).f0)]) (ok := fun _ => True) (okp := fun _ => True) ?hr ?hp (fun _ hk => hk) trivial (Below.refl _ _) (Nat.le_refl _) (by simp) ?_; (case hd => rfl); (case hg => rfl); (case hr => first | (go_simp; done) | (go_simp; rfl)); (case hp => exact (Reps.one (show Kd.M (Kd.int .u8) _ _ _ ((rd_T73 l0 x23_2).f0) [.int .u8 ((rd_T73 l0 x23_2).f0)] from rfl) (Reps.none _ _))); intro v156 w19 ho20 hb hg_ hnew_; clear hg_ hnew_; (first | rw [← Ny155.out] at ho20 | (simp only [Int.reduceToNat] at ho20; rw [← Ny155.out] at ho20)); have n0_ := Aside0.mk (Kd.R_elder' (by (with_reducible repeat (first | apply Kd.R_alloc | apply Kd.R_drewN | apply Kd.R_drew)); exact (Kd.R_mono (Kd.R_far (p := ⟨gb154, 1, none⟩) (Kd.R_far (p := ⟨gb154, 0, none⟩) (Kd.R_types HO_4.out BK154.out (by decide)) (fun _ hk => hk.2) (.int .u8 ((rd_T73 l0 x23_2).f0))) (fun _ hk => hk.2) (.slice A153_1 ((rd_T73 l0 x23_2).f1).length c153_1)) (fun _ h_ => h_.1))) (Kd.R_base ho20) hb); have n1_ := Aside0.mk (Kd.R_lower (Kd.R_new' ho20 (Kd.R_lt (by (with_reducible repeat (first | apply Kd.R_alloc | apply Kd.R_drewN | apply Kd.R_drew)); exact (Kd.R_mono (Kd.R_far (p := ⟨gb154, 1, none⟩) (Kd.R_far (p := ⟨gb154, 0, none⟩) (Kd.R_types HO_4.out BK154.out (by decide)) (fun _ hk => hk.2) (.int .u8 ((rd_T73 l0 x23_2).f0))) (fun _ hk => hk.2) (.slice A153_1 ((rd_T73 l0 x23_2).f1).length c153_1)) (fun _ h_ => h_.1))))) (below_size (by repeat (first | (with_reducible first | exact HB.out | apply below_alloc | apply pw_below_drewN | apply below_drew1 | refine below_set ?_ GE154.out) | exact HB.out)))); have n2_ := Aside0.mk (blk_below (g := gb154) (o := .cells #[.int .u8 ((rd_T73 l0 x23_2).f0), .slice A153_1 ((rd_T73 l0 x23_2).f1).length c153_1] 73 (0, 0)) (by (with_reducible repeat (first | refine blk_drewN ?_ _ | refine blk_drew ?_ | refine blk_alloc ?_ _)); refine blk_put (cs := #[.int .u8 ((rd_T73 l0 x23_2).f0), .slice none 0 0]) ?_ 1 _ rfl; (with_reducible repeat (first | refine blk_drewN ?_ _ | refine blk_drew ?_ | refine blk_alloc ?_ _)); refine blk_put (cs := #[.int .u8 0, .slice none 0 0]) ?_ 0 _ rfl; (with_reducible repeat (first | refine blk_drewN ?_ _ | refine blk_drew ?_ | refine blk_alloc ?_ _)); exact BK154.out) hb); have n3_ := Aside0.mk (below_step (by repeat (first | (with_reducible first | exact HB.out | apply below_alloc | apply pw_below_drewN | apply below_drew1 | refine below_set ?_ GE154.out) | exact HB.out)) hb); clear HO_4; clear BK154; clear HB; have HO_4 := n0_; have HO157 := n1_; have BK154 := n2_; have HB := n3_; clear n0_ n1_ n2_ n3_; clear hb ho20; have hcz21_0 : w19.cell? ⟨gb154, 0, none⟩ = some (.int .u8 ((rd_T73 l0 x23_2).f0)) := (blk_cell BK154.out 0).trans rfl; have hcz21_1 : w19.cell? ⟨gb154, 1, none⟩ = some (.slice A153_1 ((rd_T73 l0 x23_2).f1).length c153_1) := (blk_cell BK154.out 1).trans rfl; have hfz21_0 := blk_frozen BK154.out 0; have hfz21_1 := blk_frozen BK154.out 1) | ((with_reducible refine gate_builtin (b := .append) (xs := #[.tmp 29, .tmp 31]) rfl ?_); (try (refine gate_guard (by rfl) ?_; dsimp only)); at_builtin; refine Kd.R_append_rows (Kd.int .u8) (w0 := w) w.heap.size rfl (.tmp 29) (.tmp 31) 22 5 (.int .u8 0) 1 rfl Try.underlying22 info5 rfl (by decide) (by omega) v156 y155 ((rd_T73 l0 x23_2).f1) _ _ _ (fun k_ => some k_ ≠ (u4 : Value).ownBlock) (fun _ => False) rfl rfl ?aO ?aR (fun _ _ h => h) (fun _ h => h.elim) ?aF ?aB ?aS ?aL ?_; (case aR => repeat (first | exact (Kd.C_below HR153_1.out HB.out) | (with_reducible refine Kd.C_alloc ?_ _) | (with_reducible refine Kd.C_drewN ?_ _) | (with_reducible refine Kd.C_drew ?_))); (case aB => exact (by repeat (first | (with_reducible first | exact HB.out | apply below_alloc | apply pw_below_drewN | apply below_drew1 | refine below_set ?_ GE154.out) | exact HB.out))); (case aF => exact (fun k_ hk => Kd.fresh' (Kd.R_lt (by (with_reducible repeat (first | apply Kd.R_alloc | apply Kd.R_drewN | apply Kd.R_drew)); exact HO_4.out)) k_ hk)); (case aO => exact (by (with_reducible repeat (first | apply Kd.R_alloc | apply Kd.R_drewN | apply Kd.R_drew)); exact Kd.R_mono HO157.out (fun _ hk => hk.2))); (case aS => exact (below_size (by repeat (first | (with_reducible first | exact HB.out | apply below_alloc | apply pw_below_drewN | apply below_drew1 | refine below_set ?_ GE154.out) | exact HB.out)))); (case aL => have := LMc13.out; omega); intro v159 w22 ho hb hg hat; (first | rw [← Ny158.out] at ho | (simp only [Int.reduceToNat] at ho; rw [← Ny158.out] at ho)); have n0_ := Aside0.mk (Kd.R_after (ok := (fun _ => True)) (by (with_reducible repeat (first | apply Kd.R_alloc | apply Kd.R_drewN | apply Kd.R_drew)); exact HO_4.out) hg hat); have n1_ := Aside0.mk (blk_grown (g := gb154) (o := .cells #[.int .u8 ((rd_T73 l0 x23_2).f0), .slice A153_1 ((rd_T73 l0 x23_2).f1).length c153_1] 73 (0, 0)) (by (with_reducible repeat (first | refine blk_drewN ?_ _ | refine blk_drew ?_ | refine blk_alloc ?_ _)); exact BK154.out) hg (Kd.R_ne HO157.out BK154.out (by decide))); have n2_ := Aside0.mk (hb); have n3_ := Aside0.mk (ho); clear HO_4; clear BK154; clear HB; clear HO157; have HO_4 := n0_; have BK154 := n1_; have HB := n2_; have HO160 := n3_; clear n0_ n1_ n2_ n3_; clear ho hb hg hat; obtain ⟨Ao23, co23, eo23⟩ := Kd.R_slice HO160.out; subst eo23) | ((with_reducible refine gate_callee (f := 40) rfl ?_); refine goesL_ (some 34) rfl rfl Try.func40 (by kernel_rfl) rfl #[.slice Ao23 y158.length co23] rfl (by (try simp only [List.map_toArray, List.map_cons, List.map_nil]); first | done | rfl | (simp only [List.length_drop, List.length_take]; rfl)) ?_; (with_reducible refine (seal_Short.calls k2 _ _ y158 t161 _ ?side1 ?side2 A14.out).mono ?_); (case side1 => repeat (first | exact (Kd.R_reads' HO160.out).2.2 | (with_reducible refine Kd.C_alloc ?_ _) | (with_reducible refine Kd.C_drewN ?_ _) | (with_reducible refine Kd.C_drew ?_))); (case side2 => exact (Kd.R_reads' HO160.out).2.1); rintro e w' ⟨rfl, ⟨nd, rfl⟩⟩; refine ⟨_, rfl, ?_⟩) | ((with_reducible refine gate_builtin (b := .append) (xs := #[.tmp 35, .tmp 36]) rfl ?_); (try (refine gate_guard (by rfl) ?_; dsimp only)); at_builtin; refine Kd.R_append_rows (Kd.int .u8) (w0 := w) w.heap.size rfl (.tmp 35) (.tmp 36) 22 5 (.int .u8 0) 1 rfl Try.underlying22 info5 rfl (by decide) (by omega) u4 x4_2 y158 _ _ _ (fun k_ => some k_ ≠ (.slice Ao23 y158.length co23 : Value).ownBlock) (fun _ => False) rfl rfl ?aO ?aR (fun _ _ h => h) (fun _ h => h.elim) ?aF ?aB ?aS ?aL ?_; (case aR => repeat (first | exact (Kd.R_reads' HO160.out).2.2 | (with_reducible refine Kd.C_alloc ?_ _) | (with_reducible refine Kd.C_drewN ?_ _) | (with_reducible refine Kd.C_drew ?_))); (case aB => exact (by repeat (first | (with_reducible first | exact HB.out | apply below_alloc | apply pw_below_drewN | apply below_drew1 | refine below_set ?_ GE154.out) | exact HB.out))); (case aF => exact (fun k_ hk => Kd.fresh' (Kd.R_lt (by (with_reducible repeat (first | apply Kd.R_alloc | apply Kd.R_drewN | apply Kd.R_drew)); exact HO160.out)) k_ hk)); (case aO => exact (by (with_reducible repeat (first | apply Kd.R_alloc | apply Kd.R_drewN | apply Kd.R_drew)); exact Kd.R_mono HO_4.out (fun _ hk => hk.2))); (case aS => exact (below_size (by repeat (first | (with_reducible first | exact HB.out | apply below_alloc | apply pw_below_drewN | apply below_drew1 | refine below_set ?_ GE154.out) | exact HB.out)))); (case aL => have := LMc15.out; omega); intro v163 w24 ho hb hg hat; (first | rw [← Ny162.out] at ho | (simp only [Int.reduceToNat] at ho; rw [← Ny162.out] at ho)); have n0_ := Aside0.mk (blk_grown (g := gb154) (o := .cells #[.int .u8 ((rd_T73 l0 x23_2).f0), .slice A153_1 ((rd_T73 l0 x23_2).f1).length c153_1] 73 (0, 0)) (by (with_reducible repeat (first | refine blk_drewN ?_ _ | refine blk_drew ?_ | refine blk_alloc ?_ _)); exact BK154.out) hg (Kd.R_ne HO_4.out BK154.out (by decide))); have n1_ := Aside0.mk (Kd.R_after (ok := (fun _ => True)) (by (with_reducible repeat (first | apply Kd.R_alloc | apply Kd.R_drewN | apply Kd.R_drew)); exact Kd.R_mono HO160.out (fun _ hk => ⟨trivial, hk⟩)) hg hat); have n2_ := Aside0.mk (hb); have n3_ := Aside0.mk (ho); clear BK154; clear HO160; clear HB; clear HO_4; have BK154 := n0_; have HO160 := n1_; have HB := n2_; have HO164 := n3_; clear n0_ n1_ n2_ n3_; clear ho hb hg hat) | ((with_reducible refine gate_dst (N := 43) rfl ?_); (try (refine gate_guard (by rfl) ?_; dsimp only)); refine Kd.R_lit (Kd.int .u8) _ 5 ?hg (N := 43) ?hd (xs := ([(t161) % 256, (t161 / 256) % 256] : List Int)) (inner := [.int .u8 ((t161) % 256), .int .u8 ((t161 / 256) % 256)]) (ok := fun _ => True) (okp := fun _ => True) ?hr ?hp (fun _ hk => hk) trivial (Below.refl _ _) (Nat.le_refl _) (by simp) ?_; (case hd => rfl); (case hg => rfl); (case hr => first | (go_simp; done) | (go_simp; rfl)); (case hp => exact (Reps.one (show Kd.M (Kd.int .u8) _ _ _ ((t161) % 256) [.int .u8 ((t161) % 256)] from rfl) (Reps.one (show Kd.M (Kd.int .u8) _ _ _ ((t161 / 256) % 256) [.int .u8 ((t161 / 256) % 256)] from rfl) (Reps.none _ _)))); intro v166 w25 ho26 hb hg_ hnew_; clear hg_ hnew_; (first | rw [← Ny165.out] at ho26 | (simp only [Int.reduceToNat] at ho26; rw [← Ny165.out] at ho26)); have n0_ := Aside0.mk (Kd.R_elder' (by (with_reducible repeat (first | apply Kd.R_alloc | apply Kd.R_drewN | apply Kd.R_drew)); exact HO160.out) (Kd.R_base ho26) hb); have n1_ := Aside0.mk (Kd.R_elder' (by (with_reducible repeat (first | apply Kd.R_alloc | apply Kd.R_drewN | apply Kd.R_drew)); exact HO164.out) (Kd.R_base ho26) hb); have n2_ := Aside0.mk (Kd.R_lower (Kd.R_new' (Kd.R_new' ho26 (Kd.R_lt (by (with_reducible repeat (first | apply Kd.R_alloc | apply Kd.R_drewN | apply Kd.R_drew)); exact HO160.out))) (Kd.R_lt (by (with_reducible repeat (first | apply Kd.R_alloc | apply Kd.R_drewN | apply Kd.R_drew)); exact HO164.out))) (below_size (by repeat (first | (with_reducible first | exact HB.out | apply below_alloc | apply pw_below_drewN | apply below_drew1 | refine below_set ?_ GE154.out) | exact HB.out)))); have n3_ := Aside0.mk (blk_below (g := gb154) (o := .cells #[.int .u8 ((rd_T73 l0 x23_2).f0), .slice A153_1 ((rd_T73 l0 x23_2).f1).length c153_1] 73 (0, 0)) (by (with_reducible repeat (first | refine blk_drewN ?_ _ | refine blk_drew ?_ | refine blk_alloc ?_ _)); exact BK154.out) hb); have n4_ := Aside0.mk (below_step (by repeat (first | (with_reducible first | exact HB.out | apply below_alloc | apply pw_below_drewN | apply below_drew1 | refine below_set ?_ GE154.out) | exact HB.out)) hb); clear HO160; clear HO164; clear BK154; clear HB; have HO160 := n0_; have HO164 := n1_; have HO167 := n2_; have BK154 := n3_; have HB := n4_; clear n0_ n1_ n2_ n3_ n4_; clear hb ho26; obtain ⟨Ao28, co28, eo28⟩ := Kd.R_slice HO167.out; subst eo28) | ((with_reducible refine gate_builtin (b := .append) (xs := #[.tmp 37, .tmp 43]) rfl ?_); (try (refine gate_guard (by rfl) ?_; dsimp only)); at_builtin; refine Kd.R_append_rows (Kd.int .u8) (w0 := w) w.heap.size rfl (.tmp 37) (.tmp 43) 22 5 (.int .u8 0) 1 rfl Try.underlying22 info5 rfl (by decide) (by omega) v163 y162 y165 _ _ _ (fun k_ => some k_ ≠ (.slice Ao23 y158.length co23 : Value).ownBlock ∧ some k_ ≠ (.slice Ao28 y165.length co28 : Value).ownBlock) (fun _ => False) rfl rfl ?aO ?aR (fun _ _ h => h) (fun _ h => h.elim) ?aF ?aB ?aS ?aL ?_; (case aR => repeat (first | exact (Kd.R_reads' HO167.out).2.2 | (with_reducible refine Kd.C_alloc ?_ _) | (with_reducible refine Kd.C_drewN ?_ _) | (with_reducible refine Kd.C_drew ?_))); (case aB => exact (by repeat (first | (with_reducible first | exact HB.out | apply below_alloc | apply pw_below_drewN | apply below_drew1 | refine below_set ?_ GE154.out) | exact HB.out))); (case aF => exact (fun k_ hk => ⟨Kd.fresh' (Kd.R_lt (by (with_reducible repeat (first | apply Kd.R_alloc | apply Kd.R_drewN | apply Kd.R_drew)); exact HO160.out)) k_ hk, Kd.fresh' (Kd.R_lt (by (with_reducible repeat (first | apply Kd.R_alloc | apply Kd.R_drewN | apply Kd.R_drew)); exact HO167.out)) k_ hk⟩)); (case aO => exact (by (with_reducible repeat (first | apply Kd.R_alloc | apply Kd.R_drewN | apply Kd.R_drew)); exact HO164.out)); (case aS => exact (below_size (by repeat (first | (with_reducible first | exact HB.out | apply below_alloc | apply pw_below_drewN | apply below_drew1 | refine below_set ?_ GE154.out) | exact HB.out)))); (case aL => have := LMc16.out; omega); intro v169 w27 ho hb hg hat; (first | rw [← Ny168.out] at ho | (simp only [Int.reduceToNat] at ho; rw [← Ny168.out] at ho)); have n0_ := Aside0.mk (blk_grown (g := gb154) (o := .cells #[.int .u8 ((rd_T73 l0 x23_2).f0), .slice A153_1 ((rd_T73 l0 x23_2).f1).length c153_1] 73 (0, 0)) (by (with_reducible repeat (first | refine blk_drewN ?_ _ | refine blk_drew ?_ | refine blk_alloc ?_ _)); exact BK154.out) hg (Kd.R_ne HO164.out BK154.out (by decide))); have n1_ := Aside0.mk (Kd.R_after (ok := (fun k_ => some k_ ≠ (.slice Ao28 y165.length co28 : Value).ownBlock)) (by (with_reducible repeat (first | apply Kd.R_alloc | apply Kd.R_drewN | apply Kd.R_drew)); exact Kd.R_mono HO160.out (fun _ hk => ⟨hk.2, hk.1.2⟩)) hg hat); have n2_ := Aside0.mk (Kd.R_after (ok := (fun k_ => some k_ ≠ (.slice Ao23 y158.length co23 : Value).ownBlock)) (by (with_reducible repeat (first | apply Kd.R_alloc | apply Kd.R_drewN | apply Kd.R_drew)); exact Kd.R_mono HO167.out (fun _ hk => ⟨hk.1.2, hk.2⟩)) hg hat); have n3_ := Aside0.mk (hb); have n4_ := Aside0.mk (ho); clear BK154; clear HO160; clear HO167; clear HB; clear HO164; have BK154 := n0_; have HO160 := n1_; have HO167 := n2_; have HB := n3_; have HO170 := n4_; clear n0_ n1_ n2_ n3_ n4_; clear ho hb hg hat))
            go_roundg k2
            case measure => have := HJ1.out; have := HK2.out; omega
            case rel => exact ⟨(y168), (wrap64 (x23_2 + 1)), (by first | rfl | (simp; done) | (simp [*]; done)), H', ⟨by have := HJ1.out; have := HK2.out; omega⟩, ⟨by (with_reducible repeat (first | apply Kd.R_alloc | apply Kd.R_drewN | apply Kd.R_drew)); exact Kd.R_mono HO170.out (fun _ hk => trivial)⟩, ⟨by repeat (first | (with_reducible first | exact HB.out | apply below_alloc | apply pw_below_drewN | apply below_drew1 | refine below_set ?_ GE154.out) | exact HB.out)⟩⟩
           ·rw [if_neg c16] at H
            exact absurd H (by simp)
          ·rw [if_neg c15] at H
           exact absurd H (by simp)
         ·rw [if_neg c13] at H
          exact absurd H (by simp)
        ·rw [if_neg c12] at H
         exact absurd H (by simp)
       ·rw [if_neg c11] at H
        exact absurd H (by simp)
      ·rw [if_neg c10] at H
       have c10b0 : decide (x23_2 < (l0.length : Int)) = false := decide_eq_false c10
       clear c10
       obtain ⟨ji29, hji29⟩ : ∃ j_ : Int, (wrap64 (65536 - (x4_2.length : Int))) = j_ := ⟨_, rfl⟩
       replace H : (if 0 ≤ (ji29) then (if x4_2.length + (ji29 : Int).toNat < 140737488355328 then (some ((x4_2 ++ List.replicate (ji29 : Int).toNat 0), true)) else (none)) else (none)) = some (r1, r2) := by first | (rw [hji29] at H; exact H) | (simp only [hji29] at H ⊢; exact H)
       have hji29w : (IntKind.i64.wrap (65536 - (x4_2.length : Int))) = ji29 := (i64_w _).trans hji29
       by_cases c30 : 0 ≤ (ji29)
       ·rw [if_pos c30] at H
        have c30b0 := eq_true c30
        have c30b1 : decide (0 ≤ (ji29)) = true := decide_eq_true c30
        clear c30
        by_cases c31 : x4_2.length + (ji29 : Int).toNat < 140737488355328
        ·rw [if_pos c31] at H
         have LMc31 := Aside0.mk c31
         clear c31
         obtain ⟨y171, hy171⟩ : ∃ y_ : List Int, y_ = (x4_2 ++ List.replicate (ji29 : Int).toNat 0) := ⟨_, rfl⟩
         replace H : (some (y171, true)) = some (r1, r2) := by first | (rw [hy171]; with_reducible exact H) | (have H2_ := (Option.bind_some _ _).symm.trans H; rw [hy171]; with_reducible exact H2_) | (have H2_ := (Option.bind_some _ _).symm.trans H; with_reducible exact H2_) | with_reducible exact H | (rw [hy171]; exact H) | exact H
         have Ny171 := Aside0.mk hy171
         clear hy171
         simp only [Option.some.injEq, Prod.mk.injEq] at H
         obtain ⟨rfl, rfl⟩ := H
         obtain ⟨Ao32, co32, eo32⟩ := Kd.R_slice HO_4.out
         subst eo32
         go_wp2_with (first | (at_builtin; refine Kd.R_append_zeros (Kd.int .u8) (w0 := w) w.heap.size rfl (.tmp 46) (.tmp 49) 22 3 5 (.int .u8 0) 1 rfl Try.underlying22 Try.underlying3 info5 rfl (by decide) (by omega) (.slice Ao32 x4_2.length co32) x4_2 0 (ji29 : Int) (fun _ => True) rfl rfl rfl ?aF ?aO (of_decide_eq_true (by first | (with_reducible assumption) | assumption)) ?aB ?aS ?aL ?_; (case aB => exact (by repeat (first | (with_reducible first | exact HB.out | apply below_alloc | apply pw_below_drewN | apply below_drew1) | exact HB.out))); (case aF => exact (fun _ _ => trivial)); (case aO => exact (by (with_reducible repeat (first | apply Kd.R_alloc | apply Kd.R_drewN | apply Kd.R_drew)); exact HO_4.out)); (case aS => exact (below_size (by repeat (first | (with_reducible first | exact HB.out | apply below_alloc | apply pw_below_drewN | apply below_drew1) | exact HB.out)))); (case aL => have := LMc31.out; omega); intro v172 w33 ho hb hg hat; (first | rw [← Ny171.out] at ho | (simp only [Int.reduceToNat] at ho; rw [← Ny171.out] at ho)); have n0_ := Aside0.mk (hb); have n1_ := Aside0.mk (ho); clear HB; clear HO_4; have HB := n0_; have HO173 := n1_; clear n0_ n1_; clear ho hb hg hat))
         go_ret2
         exact ⟨_, by first | rfl | (simp [errW_none, errW_some] <;> rfl) | (simp only [← hji29]; first | rfl | (simp [errW_none, errW_some] <;> rfl)) | (simp [*, errW_none, errW_some] <;> rfl), by (with_reducible repeat (first | apply Kd.R_alloc | apply Kd.R_drewN | apply Kd.R_drew)); exact HO173.out, by repeat (first | (with_reducible first | exact HB.out | apply below_alloc | apply pw_below_drewN | apply below_drew1) | exact HB.out)⟩
        ·rw [if_neg c31] at H
         exact absurd H (by simp)
       ·rw [if_neg c30] at H
        exact absurd H (by simp)

/-! ### block_Want: function 39 -/
def block_Want.f (k : Nat) (l0 : List (S73)) : Option (Int × Int) := (block_Right.f k l0).bind fun t174 => (if t174 = true then (if (l0.length : Int) > 0 then (if 0 ≤ (wrap64 ((l0.length : Int) - 1)) then (if (wrap64 ((l0.length : Int) - 1)) < (l0.length : Int) then ((block_expects.f (l0.length : Int) ((rd_T73 l0 (wrap64 ((l0.length : Int) - 1))).f1)).bind fun bt176 => (some (bt176.1, bt176.2))) else (none)) else (none)) else ((block_expects.f (l0.length : Int) ([] : List Int)).bind fun bt178 => (some (bt178.1, bt178.2)))) else (some (0, 0)))
set_option maxHeartbeats 8000000 in
set_option maxRecDepth 100000 in
theorem block_Want.calls (k : Nat) (A0 : Option Addr) (c0 : Nat) (l0 : List (S73)) (r1 : Int) (r2 : Int) (w : World) (hr0 : Kd.C k73 w A0 l0.length l0) (hc0 : l0.length ≤ c0) (h : block_Want.f k l0 = some (r1, r2)) :
  Calls Try.prog 39 #[.slice A0 l0.length c0] w fun e w' => e = .returned (.tuple #[.int .u8 r1, .int .i64 r2]) ∧ Below w.heap.size w w' := by
 have HR0 := Aside0.mk hr0
 have HC0 := Aside0.mk hc0
 clear hr0 hc0
 have HB := Aside0.mk (Below.refl w.heap.size w)
 have H : ((block_Right.f k l0).bind fun t174 => (if t174 = true then (if (l0.length : Int) > 0 then (if 0 ≤ (wrap64 ((l0.length : Int) - 1)) then (if (wrap64 ((l0.length : Int) - 1)) < (l0.length : Int) then ((block_expects.f (l0.length : Int) ((rd_T73 l0 (wrap64 ((l0.length : Int) - 1))).f1)).bind fun bt176 => (some (bt176.1, bt176.2))) else (none)) else (none)) else ((block_expects.f (l0.length : Int) ([] : List Int)).bind fun bt178 => (some (bt178.1, bt178.2)))) else (some (0, 0)))) = some (r1, r2) := h
 clear h
 replace H := Option.bind_eq_some_iff.mp H
 obtain ⟨t174, A20, H⟩ := H
 replace H : (if t174 = true then (if (l0.length : Int) > 0 then (if 0 ≤ (wrap64 ((l0.length : Int) - 1)) then (if (wrap64 ((l0.length : Int) - 1)) < (l0.length : Int) then ((block_expects.f (l0.length : Int) ((rd_T73 l0 (wrap64 ((l0.length : Int) - 1))).f1)).bind fun bt176 => (some (bt176.1, bt176.2))) else (none)) else (none)) else ((block_expects.f (l0.length : Int) ([] : List Int)).bind fun bt178 => (some (bt178.1, bt178.2)))) else (some (0, 0))) = some (r1, r2) := H
 have A2 := Aside0.mk A20
 clear A20
 by_cases c3 : t174 = true
 ·subst c3
  have H1 : (if (l0.length : Int) > 0 then (if 0 ≤ (wrap64 ((l0.length : Int) - 1)) then (if (wrap64 ((l0.length : Int) - 1)) < (l0.length : Int) then ((block_expects.f (l0.length : Int) ((rd_T73 l0 (wrap64 ((l0.length : Int) - 1))).f1)).bind fun bt176 => (some (bt176.1, bt176.2))) else (none)) else (none)) else ((block_expects.f (l0.length : Int) ([] : List Int)).bind fun bt178 => (some (bt178.1, bt178.2)))) = some (r1, r2) := by rw [if_pos rfl] at H; exact H
  clear H
  have H := H1
  clear H1
  by_cases c4 : (l0.length : Int) > 0
  ·rw [if_pos c4] at H
   have c4b0 : decide (0 < (l0.length : Int)) = true := decide_eq_true c4
   have c4b1 : decide (0 < l0.length) = true := decide_eq_true (by omega)
   clear c4
   obtain ⟨ji5, hji5⟩ : ∃ j_ : Int, (wrap64 ((l0.length : Int) - 1)) = j_ := ⟨_, rfl⟩
   replace H : (if 0 ≤ (ji5) then (if (ji5) < (l0.length : Int) then ((block_expects.f (l0.length : Int) ((rd_T73 l0 (ji5)).f1)).bind fun bt176 => (some (bt176.1, bt176.2))) else (none)) else (none)) = some (r1, r2) := by first | (rw [hji5] at H; exact H) | (simp only [hji5] at H ⊢; exact H)
   (try rw [hji5] at A2)
   have hji5w : (IntKind.i64.wrap ((l0.length : Int) - 1)) = ji5 := (i64_w _).trans hji5
   by_cases c6 : 0 ≤ (ji5)
   ·rw [if_pos c6] at H
    have c6b0 : decide (0 ≤ (ji5)) = true := decide_eq_true c6
    clear c6
    by_cases c7 : (ji5) < (l0.length : Int)
    ·rw [if_pos c7] at H
     have c7b0 : decide ((ji5) < (l0.length : Int)) = true := decide_eq_true c7
     clear c7
     replace H := Option.bind_eq_some_iff.mp H
     obtain ⟨⟨t176, t177⟩, A80, H⟩ := H
     replace H : (some (t176, t177)) = some (r1, r2) := H
     have A8 := Aside0.mk A80
     clear A80
     simp only [Option.some.injEq, Prod.mk.injEq] at H
     obtain ⟨rfl, rfl⟩ := H
     go_enter Try.func39, Try.ntmps39
     go_wp2_with (first | ((with_reducible refine gate_callee (f := 45) rfl ?_); refine goesL_ (some 6) rfl rfl Try.func45 (by kernel_rfl) rfl #[.slice A0 l0.length c0] rfl (by (try simp only [List.map_toArray, List.map_cons, List.map_nil]); first | done | rfl | (simp only [List.length_drop, List.length_take]; rfl)) ?_; (with_reducible refine (block_Right.calls k (fun k_ => k_ < w.heap.size) _ _ l0 true _ ?side1 A2.out).mono ?_); (case side1 => exact Kd.V_mk HC0.out (Kd.F_below (Kd.C_F k73_heap HR0.out) (by repeat (first | (with_reducible first | exact HB.out | apply below_alloc | apply pw_below_drewN | apply below_drew1) | exact HB.out)))); rintro e w9 ⟨rfl, hb⟩; refine ⟨_, rfl, ?_⟩; have n0_ := Aside0.mk (below_step (by repeat (first | (with_reducible first | exact HB.out | apply below_alloc | apply pw_below_drewN | apply below_drew1) | exact HB.out)) hb); clear HB; have HB := n0_; clear n0_; (try clear hb); (try clear hb2); (try clear hk); (try clear hi); have p175 : 0 ≤ ((ji5) : Int) := of_decide_eq_true (by first | (with_reducible assumption) | assumption); have q175 : (ji5) < (l0.length : Int) := of_decide_eq_true (by first | (with_reducible assumption) | assumption); obtain ⟨ad175, A175_1, c175_1, e175, hx175_0, hx175_1, hl175_1, hi175_1⟩ := at_T73 HR0.out (ji5) p175 q175; cases e175; replace hx175_0 := (HB.out.cell (World.block_lt_of_cell? w _ hx175_0)).trans hx175_0; replace hx175_1 := (HB.out.cell (World.block_lt_of_cell? w _ hx175_1)).trans hx175_1; have HR175_1 := Aside0.mk hi175_1; have HC175_1 := Aside0.mk hl175_1; clear hi175_1 hl175_1; replace p175 := eq_true p175; replace q175 := eq_true q175) | ((with_reducible refine gate_callee (f := 54) rfl ?_); refine goesL_ (some 21) rfl rfl Try.func54 (by kernel_rfl) rfl #[.int .i64 (l0.length : Int), .slice A175_1 ((rd_T73 l0 (ji5)).f1).length c175_1] rfl (by (try simp only [List.map_toArray, List.map_cons, List.map_nil]); first | done | (simp only [hji5]; rfl) | rfl | (simp only [List.length_drop, List.length_take]; rfl)) ?_; (with_reducible refine (block_expects.calls (l0.length : Int) _ _ ((rd_T73 l0 (ji5)).f1) t176 t177 _ ?side1 ?side2 A8.out).mono ?_); (case side1 => repeat (first | exact (Kd.C_below HR175_1.out HB.out) | (with_reducible refine Kd.C_alloc ?_ _) | (with_reducible refine Kd.C_drewN ?_ _) | (with_reducible refine Kd.C_drew ?_))); (case side2 => exact HC175_1.out); rintro e w' ⟨rfl, ⟨nd, rfl⟩⟩; refine ⟨_, rfl, ?_⟩))
     go_ret2
     exact ⟨by first | rfl | (simp [errW_none, errW_some] <;> rfl) | (simp only [← hji5]; first | rfl | (simp [errW_none, errW_some] <;> rfl)) | (simp [*, errW_none, errW_some] <;> rfl), by repeat (first | (with_reducible first | exact HB.out | apply below_alloc | apply pw_below_drewN | apply below_drew1) | exact HB.out)⟩
    ·rw [if_neg c7] at H
     exact absurd H (by simp)
   ·rw [if_neg c6] at H
    exact absurd H (by simp)
  ·rw [if_neg c4] at H
   have c4b0 : decide (0 < (l0.length : Int)) = false := decide_eq_false c4
   have c4b1 : decide (0 < l0.length) = false := decide_eq_false (by omega)
   clear c4
   replace H := Option.bind_eq_some_iff.mp H
   obtain ⟨⟨t178, t179⟩, A100, H⟩ := H
   replace H : (some (t178, t179)) = some (r1, r2) := H
   have A10 := Aside0.mk A100
   clear A100
   simp only [Option.some.injEq, Prod.mk.injEq] at H
   obtain ⟨rfl, rfl⟩ := H
   go_enter Try.func39, Try.ntmps39
   go_wp2_with (first | ((with_reducible refine gate_callee (f := 45) rfl ?_); refine goesL_ (some 6) rfl rfl Try.func45 (by kernel_rfl) rfl #[.slice A0 l0.length c0] rfl (by (try simp only [List.map_toArray, List.map_cons, List.map_nil]); first | done | rfl | (simp only [List.length_drop, List.length_take]; rfl)) ?_; (with_reducible refine (block_Right.calls k (fun k_ => k_ < w.heap.size) _ _ l0 true _ ?side1 A2.out).mono ?_); (case side1 => exact Kd.V_mk HC0.out (Kd.F_below (Kd.C_F k73_heap HR0.out) (by repeat (first | (with_reducible first | exact HB.out | apply below_alloc | apply pw_below_drewN | apply below_drew1) | exact HB.out)))); rintro e w11 ⟨rfl, hb⟩; refine ⟨_, rfl, ?_⟩; have n0_ := Aside0.mk (below_step (by repeat (first | (with_reducible first | exact HB.out | apply below_alloc | apply pw_below_drewN | apply below_drew1) | exact HB.out)) hb); clear HB; have HB := n0_; clear n0_; (try clear hb); (try clear hb2); (try clear hk); (try clear hi)) | ((with_reducible refine gate_callee (f := 54) rfl ?_); refine goesL_ (some 21) rfl rfl Try.func54 (by kernel_rfl) rfl #[.int .i64 (l0.length : Int), .slice none 0 0] rfl (by (try simp only [List.map_toArray, List.map_cons, List.map_nil]); first | done | rfl | (simp only [List.length_drop, List.length_take]; rfl)) ?_; (refine (block_expects.calls (l0.length : Int) _ _ ([] : List Int) t178 t179 _ ?side1 ?side2 A10.out).mono ?_); (case side1 => exact Kd.C_nil _ _); (case side2 => exact Nat.le_refl _); rintro e w' ⟨rfl, ⟨nd, rfl⟩⟩; refine ⟨_, rfl, ?_⟩))
   go_ret2
   exact ⟨by first | rfl | (simp [errW_none, errW_some] <;> rfl) | (simp [*, errW_none, errW_some] <;> rfl), by repeat (first | (with_reducible first | exact HB.out | apply below_alloc | apply pw_below_drewN | apply below_drew1) | exact HB.out)⟩
 ·replace c3 := Bool.eq_false_iff.mpr c3
  subst c3
  have H1 : (some (0, 0)) = some (r1, r2) := by rw [if_neg (show ¬ (false = true) by decide)] at H; exact H
  clear H
  have H := H1
  clear H1
  simp only [Option.some.injEq, Prod.mk.injEq] at H
  obtain ⟨rfl, rfl⟩ := H
  go_enter Try.func39, Try.ntmps39
  go_wp2_with (first | ((with_reducible refine gate_callee (f := 45) rfl ?_); refine goesL_ (some 6) rfl rfl Try.func45 (by kernel_rfl) rfl #[.slice A0 l0.length c0] rfl (by (try simp only [List.map_toArray, List.map_cons, List.map_nil]); first | done | rfl | (simp only [List.length_drop, List.length_take]; rfl)) ?_; (with_reducible refine (block_Right.calls k (fun k_ => k_ < w.heap.size) _ _ l0 false _ ?side1 A2.out).mono ?_); (case side1 => exact Kd.V_mk HC0.out (Kd.F_below (Kd.C_F k73_heap HR0.out) (by repeat (first | (with_reducible first | exact HB.out | apply below_alloc | apply pw_below_drewN | apply below_drew1) | exact HB.out)))); rintro e w12 ⟨rfl, hb⟩; refine ⟨_, rfl, ?_⟩; have n0_ := Aside0.mk (below_step (by repeat (first | (with_reducible first | exact HB.out | apply below_alloc | apply pw_below_drewN | apply below_drew1) | exact HB.out)) hb); clear HB; have HB := n0_; clear n0_; (try clear hb); (try clear hb2); (try clear hk); (try clear hi)))
  go_ret2
  exact ⟨by first | rfl | (simp [errW_none, errW_some] <;> rfl) | (simp [*, errW_none, errW_some] <;> rfl), by repeat (first | (with_reducible first | exact HB.out | apply below_alloc | apply pw_below_drewN | apply below_drew1) | exact HB.out)⟩

/-! ### disk_Unwrap: function 21 -/
mutual
def disk_Unwrap.l0 : Nat → List Int → List (S73) → Int → Option ((List (S73)) × Int)
 | 0, _, _, _ => none
 | k + 1, x0, x4, x5 => if x5 < (x0.length : Int) then ((block_Want.f k x4).bind fun bt180 => (if bt180.1 = 0 then (disk_Unwrap.j1 k x0 x4 x5 bt180.1 bt180.2 true) else (if 0 ≤ x5 then (disk_Unwrap.j1 k x0 x4 x5 bt180.1 bt180.2 ((rd x0 x5) != bt180.1)) else (none)))) else (some (x4, 0))
def disk_Unwrap.j1 : Nat → List Int → List (S73) → Int → Int → Int → Bool → Option ((List (S73)) × Int)
 | 0, _, _, _, _, _, _ => none
 | k + 1, x0, x4, x5, x6, x7, x27 => if x27 = true then (some (x4, 0)) else (if (wrap64 ((wrap64 ((wrap64 (x5 + 1)) + x7)) + 2)) > (x0.length : Int) then (some (([] : List (S73)), 2)) else (if 0 ≤ x5 then (if x5 ≤ (wrap64 ((wrap64 (x5 + 1)) + x7)) then (if (wrap64 ((wrap64 (x5 + 1)) + x7)) ≤ (x0.length : Int) then ((seal_Short.f k ((x0.take ((wrap64 ((wrap64 (x5 + 1)) + x7)) : Int).toNat).drop (x5 : Int).toNat)).bind fun t184 => (if 0 ≤ (wrap64 ((wrap64 (x5 + 1)) + x7)) then (if (wrap64 ((wrap64 (x5 + 1)) + x7)) < (x0.length : Int) then (if 0 ≤ (wrap64 ((wrap64 ((wrap64 (x5 + 1)) + x7)) + 1)) then (if (wrap64 ((wrap64 ((wrap64 (x5 + 1)) + x7)) + 1)) < (x0.length : Int) then (if t184 = (Go.bits .or .u16 (IntKind.u16.wrap (rd x0 (wrap64 ((wrap64 (x5 + 1)) + x7)))) (IntKind.u16.wrap ((IntKind.u16.wrap (rd x0 (wrap64 ((wrap64 ((wrap64 (x5 + 1)) + x7)) + 1)))) * 256))) then (if 0 ≤ (wrap64 (x5 + 1)) then (if (wrap64 (x5 + 1)) ≤ (wrap64 ((wrap64 (x5 + 1)) + x7)) then ((bytes_Clone.f ((x0.take ((wrap64 ((wrap64 (x5 + 1)) + x7)) : Int).toNat).drop ((wrap64 (x5 + 1)) : Int).toNat)).bind fun t188 => (if x4.length < 4398046511104 then (disk_Unwrap.l0 k x0 (x4 ++ [(⟨x6, t188⟩ : S73)]) (wrap64 ((wrap64 ((wrap64 (x5 + 1)) + x7)) + 2))) else (none))) else (none)) else (none)) else (some (([] : List (S73)), 3))) else (none)) else (none)) else (none)) else (none))) else (none)) else (none)) else (none)))
end
def disk_Unwrap.f (k : Nat) (l0 : List Int) : Option ((List (S73)) × Int) := disk_Unwrap.l0 k l0 ([] : List (S73)) 0
set_option maxHeartbeats 8000000 in
set_option maxRecDepth 100000 in
theorem disk_Unwrap.calls (k : Nat) (A0 : Option Addr) (c0 : Nat) (l0 : List Int) (r1 : List (S73)) (r2 : Int) (w : World) (hr0 : Kd.C (Kd.int .u8) w A0 l0.length l0) (hc0 : l0.length ≤ c0) (h : disk_Unwrap.f k l0 = some (r1, r2)) :
  Calls Try.prog 21 #[.slice A0 l0.length c0] w fun e w' => ∃ v0_ : Value, e = .returned (.tuple #[v0_, .int .i64 r2]) ∧ Kd.N k73 73 w' w.heap.size (fun k_ => (w.heap.size ≤ k_)) v0_ r1 ∧ Below w.heap.size w w' := by
 have hu73 := Try.underlying73
 have HR0 := Aside0.mk hr0
 have HC0 := Aside0.mk hc0
 clear hr0 hc0
 have HB := Aside0.mk (Below.refl w.heap.size w)
 have H : (disk_Unwrap.l0 k l0 ([] : List (S73)) 0) = some (r1, r2) := h
 clear h
 have H' := Aside0.mk H
 clear H
 go_enter Try.func21, Try.ntmps21
 go_wp2
 repeat (go_quiet (fail); try go_wp2)
 go_loopg [4, 5] k (fun kq v4 v5 w' => ∃ (x4_1 : List (S73)) (x5_1 : Int), v5 = .int .i64 x5_1 ∧ Aside0 (disk_Unwrap.l0 kq l0 x4_1 x5_1 = some (r1, r2)) ∧ Aside0 (kq ≤ k) ∧ Aside0 (Kd.N k73 73 w' w.heap.size (fun k_ => (w.heap.size ≤ k_)) v4 x4_1) ∧ Aside0 (Below w.heap.size w w'))
 case atStart => exact ⟨(([] : List (S73))), (0), (by first | rfl | (simp; done) | (simp [*]; done)), H', ⟨Nat.le_refl _⟩, ⟨by first | exact Kd.S_nil _ _ _ _ _ | exact Kd.N_nil _ _ _ _ _ | exact Kd.V_nil _ _ _ _ _ | exact Kd.Q_nil _ _ _ _ _ | exact Kd.R_nil _ _ _ _ _⟩, ⟨by repeat (first | (with_reducible first | exact HB.out | apply below_alloc | apply pw_below_drewN | apply below_drew1) | exact HB.out)⟩⟩
 case round =>
  clear H'
  obtain ⟨x4_1, x5_1, rfl, HA, HK1, HO_4, HB⟩ := hrel
  cases gk with
  | zero => exact absurd HA.out (by simp [disk_Unwrap.l0])
  | succ k1 =>
   have H := HA.out
   clear HA
   simp only [disk_Unwrap.l0] at H
   by_cases c2 : x5_1 < (l0.length : Int)
   ·rw [if_pos c2] at H
    have c2b0 : decide (x5_1 < (l0.length : Int)) = true := decide_eq_true c2
    clear c2
    replace H := Option.bind_eq_some_iff.mp H
    obtain ⟨⟨t180, t181⟩, A30, H⟩ := H
    replace H : (if t180 = 0 then (disk_Unwrap.j1 k1 l0 x4_1 x5_1 t180 t181 true) else (if 0 ≤ x5_1 then (disk_Unwrap.j1 k1 l0 x4_1 x5_1 t180 t181 ((rd l0 x5_1) != t180)) else (none))) = some (r1, r2) := H
    have A3 := Aside0.mk A30
    clear A30
    have HC4 := Aside0.mk H
    clear H
    obtain ⟨Ao5, co5, eo5⟩ := Kd.N_slice HO_4.out
    subst eo5
    go_upto_region 5 with (first | (go_at_call 39; (with_reducible refine (block_Want.calls k1 _ _ x4_1 t180 t181 _ ?side1 ?side2 A3.out).mono ?_); (case side1 => repeat (first | exact (Kd.N_reads' HO_4.out).2.2 | (with_reducible refine Kd.C_alloc ?_ _) | (with_reducible refine Kd.C_drewN ?_ _) | (with_reducible refine Kd.C_drew ?_))); (case side2 => exact (Kd.N_reads' HO_4.out).2.1); rintro e w6 ⟨rfl, hb⟩; have n0_ := Aside0.mk (Kd.N_below (by (with_reducible repeat (first | apply Kd.N_alloc | apply Kd.N_drewN | apply Kd.N_drew)); exact HO_4.out) hb); have n1_ := Aside0.mk (below_step (by repeat (first | (with_reducible first | exact HB.out | apply below_alloc | apply pw_below_drewN | apply below_drew1) | exact HB.out)) hb); clear HO_4; clear HB; have HO_4 := n0_; have HB := n1_; clear n0_ n1_; (try clear hb); (try clear hb2); (try clear hk); (try clear hi)))
    repeat (go_quiet (first | (go_at_call 39; (with_reducible refine (block_Want.calls k1 _ _ x4_1 t180 t181 _ ?side1 ?side2 A3.out).mono ?_); (case side1 => repeat (first | exact (Kd.N_reads' HO_4.out).2.2 | (with_reducible refine Kd.C_alloc ?_ _) | (with_reducible refine Kd.C_drewN ?_ _) | (with_reducible refine Kd.C_drew ?_))); (case side2 => exact (Kd.N_reads' HO_4.out).2.1); rintro e w6 ⟨rfl, hb⟩; have n0_ := Aside0.mk (Kd.N_below (by (with_reducible repeat (first | apply Kd.N_alloc | apply Kd.N_drewN | apply Kd.N_drew)); exact HO_4.out) hb); have n1_ := Aside0.mk (below_step (by repeat (first | (with_reducible first | exact HB.out | apply below_alloc | apply pw_below_drewN | apply below_drew1) | exact HB.out)) hb); clear HO_4; clear HB; have HO_4 := n0_; have HB := n1_; clear n0_ n1_; (try clear hb); (try clear hb2); (try clear hk); (try clear hi))); go_upto_region 5 with (first | (go_at_call 39; (with_reducible refine (block_Want.calls k1 _ _ x4_1 t180 t181 _ ?side1 ?side2 A3.out).mono ?_); (case side1 => repeat (first | exact (Kd.N_reads' HO_4.out).2.2 | (with_reducible refine Kd.C_alloc ?_ _) | (with_reducible refine Kd.C_drewN ?_ _) | (with_reducible refine Kd.C_drew ?_))); (case side2 => exact (Kd.N_reads' HO_4.out).2.1); rintro e w6 ⟨rfl, hb⟩; have n0_ := Aside0.mk (Kd.N_below (by (with_reducible repeat (first | apply Kd.N_alloc | apply Kd.N_drewN | apply Kd.N_drew)); exact HO_4.out) hb); have n1_ := Aside0.mk (below_step (by repeat (first | (with_reducible first | exact HB.out | apply below_alloc | apply pw_below_drewN | apply below_drew1) | exact HB.out)) hb); clear HO_4; clear HB; have HO_4 := n0_; have HB := n1_; clear n0_ n1_; (try clear hb); (try clear hb2); (try clear hk); (try clear hi))))
    (try simp only [Act.put, List.setIfInBounds_toArray, List.set_cons_zero, List.set_cons_succ])
    go_cut [27] (fun v27 wc => ∃ (kq : Nat) (x27_3 : Bool), v27 = .bool x27_3 ∧ Aside0 (disk_Unwrap.j1 kq l0 x4_1 x5_1 t180 t181 x27_3 = some (r1, r2)) ∧ Aside0 (kq ≤ k1) ∧ Aside0 (Kd.N k73 73 wc w.heap.size (fun k_ => (w.heap.size ≤ k_)) (.slice Ao5 x4_1.length co5) x4_1) ∧ Aside0 (Below w.heap.size w wc))
    case first =>
     have H := HC4.out
     clear HC4
     by_cases c7 : t180 = 0
     ·rw [if_pos c7] at H
      have c7b0 : (t180 == 0) = true := beq_iff_eq.mpr c7
      have c7b1 : (t180 != 0) = false := bne_eq_false_iff_eq.mpr c7
      clear c7
      (first | rw [c7b0] | (simp only [i64_w, i32_w]; rw [c7b0]) | skip)
      have H' := Aside0.mk H
      clear H
      go_wp2
      repeat (go_quiet (fail); try go_wp2)
      go_meet
      case rel => exact ⟨_, (true), (by first | rfl | (simp; done) | (simp [*]; done)), H', ⟨by have := HK1.out; first | omega | exact Nat.le_refl _⟩, ⟨by (with_reducible repeat (first | apply Kd.N_alloc | apply Kd.N_drewN | apply Kd.N_drew)); exact HO_4.out⟩, ⟨by repeat (first | (with_reducible first | exact HB.out | apply below_alloc | apply pw_below_drewN | apply below_drew1) | exact HB.out)⟩⟩
     ·rw [if_neg c7] at H
      have c7b0 : (t180 == 0) = false := beq_eq_false_iff_ne.mpr c7
      have c7b1 : (t180 != 0) = true := bne_iff_ne.mpr c7
      (first | rw [c7b0] | (simp only [i64_w, i32_w]; rw [c7b0]) | skip)
      by_cases c8 : 0 ≤ x5_1
      ·rw [if_pos c8] at H
       have c8b0 : decide (0 ≤ x5_1) = true := decide_eq_true c8
       clear c8
       have H' := Aside0.mk H
       clear H
       have p182 : 0 ≤ (x5_1 : Int) := of_decide_eq_true (by first | (with_reducible assumption) | assumption)
       have q182 : x5_1 < (l0.length : Int) := of_decide_eq_true (by first | (with_reducible assumption) | assumption)
       obtain ⟨ad182, e182, hx182_0⟩ := Kd.at_int HR0.out x5_1 p182 q182
       cases e182
       replace hx182_0 := (HB.out.cell (World.block_lt_of_cell? w _ hx182_0)).trans hx182_0
       replace p182 := eq_true p182
       replace q182 := eq_true q182
       go_wp2
       repeat (go_quiet (fail); try go_wp2)
       go_meet
       case rel => exact ⟨_, (((rd l0 x5_1) != t180)), (by first | rfl | (simp; done) | (simp [*]; done)), H', ⟨by have := HK1.out; first | omega | exact Nat.le_refl _⟩, ⟨by (with_reducible repeat (first | apply Kd.N_alloc | apply Kd.N_drewN | apply Kd.N_drew)); exact HO_4.out⟩, ⟨by repeat (first | (with_reducible first | exact HB.out | apply below_alloc | apply pw_below_drewN | apply below_drew1) | exact HB.out)⟩⟩
      ·rw [if_neg c8] at H
       exact absurd H (by simp)
    case rest =>
     clear HC4
     try clear p1
     try clear q1
     try clear hx1
     try clear c2
     try clear c2b0
     try clear p2
     try clear c7
     try clear c7b0
     try clear c7b1
     try clear c8
     try clear c8b0
     try clear hx182_0
     try clear p182
     try clear q182
     obtain ⟨kq, x27_3, rfl, HA, HJ3, HO_4, HB⟩ := hcut
     cases kq with
     | zero => exact absurd HA.out (by simp [disk_Unwrap.j1])
     | succ kj3 =>
      have H := HA.out
      clear HA
      simp only [disk_Unwrap.j1] at H
      by_cases c9 : x27_3 = true
      ·subst c9
       have H1 : (some (x4_1, 0)) = some (r1, r2) := by rw [if_pos rfl] at H; exact H
       clear H
       have H := H1
       clear H1
       simp only [Option.some.injEq, Prod.mk.injEq] at H
       obtain ⟨rfl, rfl⟩ := H
       go_wp2
       repeat (go_quiet (fail); try go_wp2)
       go_ret2
       exact ⟨_, by first | rfl | (simp [errW_none, errW_some] <;> rfl) | (simp [*, errW_none, errW_some] <;> rfl), by (with_reducible repeat (first | apply Kd.N_alloc | apply Kd.N_drewN | apply Kd.N_drew)); exact HO_4.out, by repeat (first | (with_reducible first | exact HB.out | apply below_alloc | apply pw_below_drewN | apply below_drew1) | exact HB.out)⟩
      ·replace c9 := Bool.eq_false_iff.mpr c9
       subst c9
       have H1 : (if (wrap64 ((wrap64 ((wrap64 (x5_1 + 1)) + t181)) + 2)) > (l0.length : Int) then (some (([] : List (S73)), 2)) else (if 0 ≤ x5_1 then (if x5_1 ≤ (wrap64 ((wrap64 (x5_1 + 1)) + t181)) then (if (wrap64 ((wrap64 (x5_1 + 1)) + t181)) ≤ (l0.length : Int) then ((seal_Short.f kj3 ((l0.take ((wrap64 ((wrap64 (x5_1 + 1)) + t181)) : Int).toNat).drop (x5_1 : Int).toNat)).bind fun t184 => (if 0 ≤ (wrap64 ((wrap64 (x5_1 + 1)) + t181)) then (if (wrap64 ((wrap64 (x5_1 + 1)) + t181)) < (l0.length : Int) then (if 0 ≤ (wrap64 ((wrap64 ((wrap64 (x5_1 + 1)) + t181)) + 1)) then (if (wrap64 ((wrap64 ((wrap64 (x5_1 + 1)) + t181)) + 1)) < (l0.length : Int) then (if t184 = (Go.bits .or .u16 (IntKind.u16.wrap (rd l0 (wrap64 ((wrap64 (x5_1 + 1)) + t181)))) (IntKind.u16.wrap ((IntKind.u16.wrap (rd l0 (wrap64 ((wrap64 ((wrap64 (x5_1 + 1)) + t181)) + 1)))) * 256))) then (if 0 ≤ (wrap64 (x5_1 + 1)) then (if (wrap64 (x5_1 + 1)) ≤ (wrap64 ((wrap64 (x5_1 + 1)) + t181)) then ((bytes_Clone.f ((l0.take ((wrap64 ((wrap64 (x5_1 + 1)) + t181)) : Int).toNat).drop ((wrap64 (x5_1 + 1)) : Int).toNat)).bind fun t188 => (if x4_1.length < 4398046511104 then (disk_Unwrap.l0 kj3 l0 (x4_1 ++ [(⟨t180, t188⟩ : S73)]) (wrap64 ((wrap64 ((wrap64 (x5_1 + 1)) + t181)) + 2))) else (none))) else (none)) else (none)) else (some (([] : List (S73)), 3))) else (none)) else (none)) else (none)) else (none))) else (none)) else (none)) else (none))) = some (r1, r2) := by rw [if_neg (show ¬ (false = true) by decide)] at H; exact H
       clear H
       have H := H1
       clear H1
       by_cases c10 : (wrap64 ((wrap64 ((wrap64 (x5_1 + 1)) + t181)) + 2)) > (l0.length : Int)
       ·rw [if_pos c10] at H
        have c10b0 : decide ((l0.length : Int) < (wrap64 ((wrap64 ((wrap64 (x5_1 + 1)) + t181)) + 2))) = true := decide_eq_true c10
        clear c10
        simp only [Option.some.injEq, Prod.mk.injEq] at H
        obtain ⟨rfl, rfl⟩ := H
        go_wp2
        repeat (go_quiet (fail); try go_wp2)
        go_ret2
        exact ⟨_, by first | rfl | (simp [errW_none, errW_some] <;> rfl) | (simp [*, errW_none, errW_some] <;> rfl), by first | exact Kd.S_nil _ _ _ _ _ | exact Kd.N_nil _ _ _ _ _ | exact Kd.V_nil _ _ _ _ _ | exact Kd.Q_nil _ _ _ _ _ | exact Kd.R_nil _ _ _ _ _, by repeat (first | (with_reducible first | exact HB.out | apply below_alloc | apply pw_below_drewN | apply below_drew1) | exact HB.out)⟩
       ·rw [if_neg c10] at H
        have c10b0 : decide ((l0.length : Int) < (wrap64 ((wrap64 ((wrap64 (x5_1 + 1)) + t181)) + 2))) = false := decide_eq_false c10
        clear c10
        by_cases c11 : 0 ≤ x5_1
        ·rw [if_pos c11] at H
         have c11b0 := eq_true c11
         have c11b1 : decide (0 ≤ x5_1) = true := decide_eq_true c11
         clear c11
         by_cases c12 : x5_1 ≤ (wrap64 ((wrap64 (x5_1 + 1)) + t181))
         ·rw [if_pos c12] at H
          have c12b0 := eq_true c12
          have c12b1 : decide (x5_1 ≤ (wrap64 ((wrap64 (x5_1 + 1)) + t181))) = true := decide_eq_true c12
          by_cases c13 : (wrap64 ((wrap64 (x5_1 + 1)) + t181)) ≤ (l0.length : Int)
          ·rw [if_pos c13] at H
           have c13b0 := eq_true c13
           have c13b1 : decide ((wrap64 ((wrap64 (x5_1 + 1)) + t181)) ≤ (l0.length : Int)) = true := decide_eq_true c13
           replace H := Option.bind_eq_some_iff.mp H
           obtain ⟨t184, A140, H⟩ := H
           replace H : (if 0 ≤ (wrap64 ((wrap64 (x5_1 + 1)) + t181)) then (if (wrap64 ((wrap64 (x5_1 + 1)) + t181)) < (l0.length : Int) then (if 0 ≤ (wrap64 ((wrap64 ((wrap64 (x5_1 + 1)) + t181)) + 1)) then (if (wrap64 ((wrap64 ((wrap64 (x5_1 + 1)) + t181)) + 1)) < (l0.length : Int) then (if t184 = (Go.bits .or .u16 (IntKind.u16.wrap (rd l0 (wrap64 ((wrap64 (x5_1 + 1)) + t181)))) (IntKind.u16.wrap ((IntKind.u16.wrap (rd l0 (wrap64 ((wrap64 ((wrap64 (x5_1 + 1)) + t181)) + 1)))) * 256))) then (if 0 ≤ (wrap64 (x5_1 + 1)) then (if (wrap64 (x5_1 + 1)) ≤ (wrap64 ((wrap64 (x5_1 + 1)) + t181)) then ((bytes_Clone.f ((l0.take ((wrap64 ((wrap64 (x5_1 + 1)) + t181)) : Int).toNat).drop ((wrap64 (x5_1 + 1)) : Int).toNat)).bind fun t188 => (if x4_1.length < 4398046511104 then (disk_Unwrap.l0 kj3 l0 (x4_1 ++ [(⟨t180, t188⟩ : S73)]) (wrap64 ((wrap64 ((wrap64 (x5_1 + 1)) + t181)) + 2))) else (none))) else (none)) else (none)) else (some (([] : List (S73)), 3))) else (none)) else (none)) else (none)) else (none)) = some (r1, r2) := H
           have A14 := Aside0.mk A140
           clear A140
           obtain ⟨ji15, hji15⟩ : ∃ j_ : Int, (wrap64 ((wrap64 (x5_1 + 1)) + t181)) = j_ := ⟨_, rfl⟩
           replace H : (if 0 ≤ (ji15) then (if (ji15) < (l0.length : Int) then (if 0 ≤ (wrap64 ((ji15) + 1)) then (if (wrap64 ((ji15) + 1)) < (l0.length : Int) then (if t184 = (Go.bits .or .u16 (IntKind.u16.wrap (rd l0 (ji15))) (IntKind.u16.wrap ((IntKind.u16.wrap (rd l0 (wrap64 ((ji15) + 1)))) * 256))) then (if 0 ≤ (wrap64 (x5_1 + 1)) then (if (wrap64 (x5_1 + 1)) ≤ (ji15) then ((bytes_Clone.f ((l0.take ((ji15) : Int).toNat).drop ((wrap64 (x5_1 + 1)) : Int).toNat)).bind fun t188 => (if x4_1.length < 4398046511104 then (disk_Unwrap.l0 kj3 l0 (x4_1 ++ [(⟨t180, t188⟩ : S73)]) (wrap64 ((ji15) + 2))) else (none))) else (none)) else (none)) else (some (([] : List (S73)), 3))) else (none)) else (none)) else (none)) else (none)) = some (r1, r2) := by first | (rw [hji15] at H; exact H) | (simp only [hji15] at H ⊢; exact H)
           (try rw [hji15] at c10b0)
           (try rw [hji15] at c12b0)
           (try rw [hji15] at c12b1)
           (try rw [hji15] at c12)
           (try rw [hji15] at c13b0)
           (try rw [hji15] at c13b1)
           (try rw [hji15] at c13)
           (try rw [hji15] at A14)
           have hji15w : (IntKind.i64.wrap ((wrap64 (x5_1 + 1)) + t181)) = ji15 := (i64_w _).trans hji15
           by_cases c16 : 0 ≤ (ji15)
           ·rw [if_pos c16] at H
            have c16b0 : decide (0 ≤ (ji15)) = true := decide_eq_true c16
            clear c16
            by_cases c17 : (ji15) < (l0.length : Int)
            ·rw [if_pos c17] at H
             have c17b0 : decide ((ji15) < (l0.length : Int)) = true := decide_eq_true c17
             clear c17
             obtain ⟨ji18, hji18⟩ : ∃ j_ : Int, (wrap64 ((ji15) + 1)) = j_ := ⟨_, rfl⟩
             replace H : (if 0 ≤ (ji18) then (if (ji18) < (l0.length : Int) then (if t184 = (Go.bits .or .u16 (IntKind.u16.wrap (rd l0 (ji15))) (IntKind.u16.wrap ((IntKind.u16.wrap (rd l0 (ji18))) * 256))) then (if 0 ≤ (wrap64 (x5_1 + 1)) then (if (wrap64 (x5_1 + 1)) ≤ (ji15) then ((bytes_Clone.f ((l0.take ((ji15) : Int).toNat).drop ((wrap64 (x5_1 + 1)) : Int).toNat)).bind fun t188 => (if x4_1.length < 4398046511104 then (disk_Unwrap.l0 kj3 l0 (x4_1 ++ [(⟨t180, t188⟩ : S73)]) (wrap64 ((ji15) + 2))) else (none))) else (none)) else (none)) else (some (([] : List (S73)), 3))) else (none)) else (none)) = some (r1, r2) := by first | (rw [hji18] at H; exact H) | (simp only [hji18] at H ⊢; exact H)
             (try rw [hji18] at A14)
             have hji18w : (IntKind.i64.wrap ((ji15) + 1)) = ji18 := (i64_w _).trans hji18
             by_cases c19 : 0 ≤ (ji18)
             ·rw [if_pos c19] at H
              have c19b0 : decide (0 ≤ (ji18)) = true := decide_eq_true c19
              clear c19
              by_cases c20 : (ji18) < (l0.length : Int)
              ·rw [if_pos c20] at H
               have c20b0 : decide ((ji18) < (l0.length : Int)) = true := decide_eq_true c20
               clear c20
               by_cases c21 : t184 = (Go.bits .or .u16 (IntKind.u16.wrap (rd l0 (ji15))) (IntKind.u16.wrap ((IntKind.u16.wrap (rd l0 (ji18))) * 256)))
               ·rw [if_pos c21] at H
                have c21b0 : (t184 == (Go.bits .or .u16 (IntKind.u16.wrap (rd l0 (ji15))) (IntKind.u16.wrap ((IntKind.u16.wrap (rd l0 (ji18))) * 256)))) = true := beq_iff_eq.mpr c21
                have c21b1 : (t184 != (Go.bits .or .u16 (IntKind.u16.wrap (rd l0 (ji15))) (IntKind.u16.wrap ((IntKind.u16.wrap (rd l0 (ji18))) * 256)))) = false := bne_eq_false_iff_eq.mpr c21
                clear c21
                obtain ⟨ji22, hji22⟩ : ∃ j_ : Int, (wrap64 (x5_1 + 1)) = j_ := ⟨_, rfl⟩
                replace H : (if 0 ≤ (ji22) then (if (ji22) ≤ (ji15) then ((bytes_Clone.f ((l0.take ((ji15) : Int).toNat).drop ((ji22) : Int).toNat)).bind fun t188 => (if x4_1.length < 4398046511104 then (disk_Unwrap.l0 kj3 l0 (x4_1 ++ [(⟨t180, t188⟩ : S73)]) (wrap64 ((ji15) + 2))) else (none))) else (none)) else (none)) = some (r1, r2) := by first | (rw [hji22] at H; exact H) | (simp only [hji22] at H ⊢; exact H)
                (try rw [hji22] at c10b0)
                (try rw [hji22] at c12b0)
                (try rw [hji22] at c12b1)
                (try rw [hji22] at c12)
                (try rw [hji22] at c13b0)
                (try rw [hji22] at c13b1)
                (try rw [hji22] at c13)
                (try rw [hji22] at A14)
                have hji22w : (IntKind.i64.wrap (x5_1 + 1)) = ji22 := (i64_w _).trans hji22
                have hjc_hji15_hji22 := hji15; rw [hji22] at hjc_hji15_hji22; have hjcw_hji15_hji22 := hji15w; rw [hji22] at hjcw_hji15_hji22
                by_cases c23 : 0 ≤ (ji22)
                ·rw [if_pos c23] at H
                 have c23b0 := eq_true c23
                 have c23b1 : decide (0 ≤ (ji22)) = true := decide_eq_true c23
                 clear c23
                 by_cases c24 : (ji22) ≤ (ji15)
                 ·rw [if_pos c24] at H
                  have c24b0 := eq_true c24
                  have c24b1 : decide ((ji22) ≤ (ji15)) = true := decide_eq_true c24
                  clear c24
                  have c25b0 := eq_true (of_decide_eq_true (by first | (with_reducible assumption) | assumption) : (ji15) ≤ (l0.length : Int))
                  replace H := Option.bind_eq_some_iff.mp H
                  obtain ⟨t188, A260, H⟩ := H
                  replace H : (if x4_1.length < 4398046511104 then (disk_Unwrap.l0 kj3 l0 (x4_1 ++ [(⟨t180, t188⟩ : S73)]) (wrap64 ((ji15) + 2))) else (none)) = some (r1, r2) := H
                  have A26 := Aside0.mk A260
                  clear A260
                  by_cases c27 : x4_1.length < 4398046511104
                  ·rw [if_pos c27] at H
                   have LMc27 := Aside0.mk c27
                   clear c27
                   obtain ⟨y191, hy191⟩ : ∃ y_ : List (S73), y_ = (x4_1 ++ [(⟨t180, t188⟩ : S73)]) := ⟨_, rfl⟩
                   replace H : (disk_Unwrap.l0 kj3 l0 y191 (wrap64 ((ji15) + 2))) = some (r1, r2) := by first | (rw [hy191]; with_reducible exact H) | (have H2_ := (Option.bind_some _ _).symm.trans H; rw [hy191]; with_reducible exact H2_) | (have H2_ := (Option.bind_some _ _).symm.trans H; with_reducible exact H2_) | with_reducible exact H | (rw [hy191]; exact H) | exact H
                   have Ny191 := Aside0.mk hy191
                   clear hy191
                   have H' := Aside0.mk H
                   clear H
                   obtain ⟨i028, hi028, _, hsz28, _⟩ := info_parts info5
                   obtain ⟨A28, hcut28, hA28, hC28⟩ := print_mid_of (P := Try.prog) (Value.int .u8) 0 22 5 .i64 .i64 Try.underlying22 hi028 hsz28 A0 c0 l0 x5_1 (ji15) (of_decide_eq_true (by first | (with_reducible assumption) | assumption)) (by first | omega | exact of_decide_eq_true (by first | (with_reducible assumption) | assumption)) (of_decide_eq_true (by first | (with_reducible assumption) | assumption)) HC0.out
                   have HR183 := Aside0.mk (Kd.C_of_reads (h1 := fun _ => rfl) (hA28 _ (Kd.reads_of_C HR0.out)))
                   have HC183 := Aside0.mk hC28
                   clear hA28 hC28 hi028 hsz28
                   go_wp2_with (first | (go_at_call 40; (try rw [show (ji15.toNat - x5_1.toNat) = ((l0.take (ji15 : Int).toNat).drop (x5_1 : Int).toNat).length from by rw [List.length_drop, List.length_take]; omega]); (with_reducible refine (seal_Short.calls kj3 _ _ ((l0.take (ji15 : Int).toNat).drop (x5_1 : Int).toNat) t184 _ ?side1 ?side2 A14.out).mono ?_); (case side1 => repeat (first | exact (Kd.C_below HR183.out HB.out) | (with_reducible refine Kd.C_alloc ?_ _) | (with_reducible refine Kd.C_drewN ?_ _) | (with_reducible refine Kd.C_drew ?_))); (case side2 => exact HC183.out); rintro e w' ⟨rfl, ⟨nd, rfl⟩⟩; (try first | exact ⟨rfl, _, World.drewN_drewN _ _ _⟩ | exact ⟨rfl, _, Eq.trans (World.drewN_drewN _ _ _) (congrArg (World.drewN _) (Nat.add_assoc _ _ _))⟩); have p185 : 0 ≤ ((ji15) : Int) := of_decide_eq_true (by first | (with_reducible assumption) | assumption); have q185 : (ji15) < (l0.length : Int) := of_decide_eq_true (by first | (with_reducible assumption) | assumption); obtain ⟨ad185, e185, hx185_0⟩ := Kd.at_int HR0.out (ji15) p185 q185; cases e185; replace hx185_0 := (HB.out.cell (World.block_lt_of_cell? w _ hx185_0)).trans hx185_0; replace p185 := eq_true p185; replace q185 := eq_true q185; have p186 : 0 ≤ ((ji18) : Int) := of_decide_eq_true (by first | (with_reducible assumption) | assumption); have q186 : (ji18) < (l0.length : Int) := of_decide_eq_true (by first | (with_reducible assumption) | assumption); obtain ⟨ad186, e186, hx186_0⟩ := Kd.at_int HR0.out (ji18) p186 q186; obtain rfl : ad185 = ad186 := (by injection e186); replace hx186_0 := (HB.out.cell (World.block_lt_of_cell? w _ hx186_0)).trans hx186_0; replace p186 := eq_true p186; replace q186 := eq_true q186; obtain ⟨i029, hi029, _, hsz29, _⟩ := info_parts info5; obtain ⟨A29, hcut29, hA29, hC29⟩ := print_mid_of (P := Try.prog) (Value.int .u8) 0 22 5 .i64 .i64 Try.underlying22 hi029 hsz29 (some ad185) c0 l0 (ji22) (ji15) (of_decide_eq_true (by first | (with_reducible assumption) | assumption)) (by first | omega | exact of_decide_eq_true (by first | (with_reducible assumption) | assumption)) (of_decide_eq_true (by first | (with_reducible assumption) | assumption)) HC0.out; have HR187 := Aside0.mk (Kd.C_of_reads (h1 := fun _ => rfl) (hA29 _ (Kd.reads_of_C HR0.out))); have HC187 := Aside0.mk hC29; clear hA29 hC29 hi029 hsz29) | (go_at_call 41; (try rw [show (ji15.toNat - ji22.toNat) = ((l0.take (ji15 : Int).toNat).drop (ji22 : Int).toNat).length from by rw [List.length_drop, List.length_take]; omega]); (with_reducible refine (bytes_Clone.calls _ _ ((l0.take (ji15 : Int).toNat).drop (ji22 : Int).toNat) t188 _ ?side1 ?side2 A26.out).mono ?_); (case side1 => repeat (first | exact (Kd.C_below HR187.out (by repeat (first | (with_reducible first | exact HB.out | apply below_alloc | apply pw_below_drewN | apply below_drew1) | exact HB.out))) | (with_reducible refine Kd.C_alloc ?_ _) | (with_reducible refine Kd.C_drewN ?_ _) | (with_reducible refine Kd.C_drew ?_))); (case side2 => exact HC187.out); rintro e w30 ⟨v189, rfl, ho0, hb⟩; have n0_ := Aside0.mk (Kd.N_below (by (with_reducible repeat (first | apply Kd.N_alloc | apply Kd.N_drewN | apply Kd.N_drew)); exact HO_4.out) hb); have n1_ := Aside0.mk (Kd.V_lower (Kd.V_mono (ok' := fun k_ => (w.heap.size ≤ k_) ∧ some k_ ≠ (.slice Ao5 x4_1.length co5 : Value).ownBlock) ho0 (fun k_ hk_ => ⟨(Nat.le_trans (below_size (by repeat (first | (with_reducible first | exact HB.out | apply below_alloc | apply pw_below_drewN | apply below_drew1) | exact HB.out))) hk_), (Kd.fresh' (Kd.N_lt (by (with_reducible repeat (first | apply Kd.N_alloc | apply Kd.N_drewN | apply Kd.N_drew)); exact HO_4.out)) k_ hk_)⟩)) (below_size (by repeat (first | (with_reducible first | exact HB.out | apply below_alloc | apply pw_below_drewN | apply below_drew1) | exact HB.out)))); have n2_ := Aside0.mk (below_step (by repeat (first | (with_reducible first | exact HB.out | apply below_alloc | apply pw_below_drewN | apply below_drew1) | exact HB.out)) hb); clear HO_4; clear HB; have HO_4 := n0_; have HO190 := n1_; have HB := n2_; clear n0_ n1_ n2_; (try clear hb); (try clear hb2); (try clear hk); (try clear hi); (try clear ho0); obtain ⟨Ao31, co31, eo31⟩ := Kd.V_slice HO190.out; subst eo31) | ((with_reducible refine gate_builtin (b := .append) (xs := #[.tmp 56, .tmp 65]) rfl ?_); at_builtin; refine Kd.N_append k73 (w0 := w) w.heap.size rfl (.tmp 56) (.tmp 65) 45 73 (.agg #[(.int .u8 0), (.slice none 0 0)]) 32 rfl Try.underlying45 info73 rfl (by decide) (by omega) (.slice Ao5 x4_1.length co5) x4_1 (⟨t180, t188⟩ : S73) [.int .u8 t180, .slice Ao31 t188.length co31] (fun k_ => (w.heap.size ≤ k_)) (fun k_ => ((fun k_ => (w.heap.size ≤ k_))) k_ ∧ some k_ ≠ (.slice Ao5 x4_1.length co5 : Value).ownBlock) rfl rfl ?aP (fun _ hk => hk) ?aF ?aO ?aB ?aS ?aL ?_; (case aP => exact (k73_mkF _ _ (⟨t180, t188⟩ : S73) (Kd.V_reads' (Kd.V_mono (ok' := (fun k_ => ((fun k_ => (w.heap.size ≤ k_))) k_ ∧ some k_ ≠ (.slice Ao5 x4_1.length co5 : Value).ownBlock)) (HO190.out) (fun k_ hk => ⟨hk.1, hk.2⟩))).2.1 (Kd.V_F (Kd.V_mono (ok' := (fun k_ => ((fun k_ => (w.heap.size ≤ k_))) k_ ∧ some k_ ≠ (.slice Ao5 x4_1.length co5 : Value).ownBlock)) (HO190.out) (fun k_ hk => ⟨hk.1, hk.2⟩))))); (case aB => exact (by repeat (first | (with_reducible first | exact HB.out | apply below_alloc | apply pw_below_drewN | apply below_drew1) | exact HB.out))); (case aF => exact (fun k_ hk => (Nat.le_trans (below_size (by repeat (first | (with_reducible first | exact HB.out | apply below_alloc | apply pw_below_drewN | apply below_drew1) | exact HB.out))) hk))); (case aO => exact (by (with_reducible repeat (first | apply Kd.N_alloc | apply Kd.N_drewN | apply Kd.N_drew)); exact HO_4.out)); (case aS => exact (below_size (by repeat (first | (with_reducible first | exact HB.out | apply below_alloc | apply pw_below_drewN | apply below_drew1) | exact HB.out)))); (case aL => have := LMc27.out; omega); intro v192 w32 ho hb hg hat; rw [← Ny191.out] at ho; have n0_ := Aside0.mk (Kd.V_afterv (ok := (fun k_ => (w.heap.size ≤ k_))) (by (with_reducible repeat (first | apply Kd.V_alloc | apply Kd.V_drewN | apply Kd.V_drew)); exact HO190.out) hg hat); have n1_ := Aside0.mk (hb); have n2_ := Aside0.mk (ho); clear HO190; clear HB; clear HO_4; have HO190 := n0_; have HB := n1_; have HO193 := n2_; clear n0_ n1_ n2_; clear ho hb hg hat))
                   try rw [hji15]
                   try rw [hji18]
                   try rw [hji22]
                   repeat (go_quiet (first | (go_at_call 40; (try rw [show (ji15.toNat - x5_1.toNat) = ((l0.take (ji15 : Int).toNat).drop (x5_1 : Int).toNat).length from by rw [List.length_drop, List.length_take]; omega]); (with_reducible refine (seal_Short.calls kj3 _ _ ((l0.take (ji15 : Int).toNat).drop (x5_1 : Int).toNat) t184 _ ?side1 ?side2 A14.out).mono ?_); (case side1 => repeat (first | exact (Kd.C_below HR183.out HB.out) | (with_reducible refine Kd.C_alloc ?_ _) | (with_reducible refine Kd.C_drewN ?_ _) | (with_reducible refine Kd.C_drew ?_))); (case side2 => exact HC183.out); rintro e w' ⟨rfl, ⟨nd, rfl⟩⟩; (try first | exact ⟨rfl, _, World.drewN_drewN _ _ _⟩ | exact ⟨rfl, _, Eq.trans (World.drewN_drewN _ _ _) (congrArg (World.drewN _) (Nat.add_assoc _ _ _))⟩); have p185 : 0 ≤ ((ji15) : Int) := of_decide_eq_true (by first | (with_reducible assumption) | assumption); have q185 : (ji15) < (l0.length : Int) := of_decide_eq_true (by first | (with_reducible assumption) | assumption); obtain ⟨ad185, e185, hx185_0⟩ := Kd.at_int HR0.out (ji15) p185 q185; cases e185; replace hx185_0 := (HB.out.cell (World.block_lt_of_cell? w _ hx185_0)).trans hx185_0; replace p185 := eq_true p185; replace q185 := eq_true q185; have p186 : 0 ≤ ((ji18) : Int) := of_decide_eq_true (by first | (with_reducible assumption) | assumption); have q186 : (ji18) < (l0.length : Int) := of_decide_eq_true (by first | (with_reducible assumption) | assumption); obtain ⟨ad186, e186, hx186_0⟩ := Kd.at_int HR0.out (ji18) p186 q186; obtain rfl : ad185 = ad186 := (by injection e186); replace hx186_0 := (HB.out.cell (World.block_lt_of_cell? w _ hx186_0)).trans hx186_0; replace p186 := eq_true p186; replace q186 := eq_true q186; obtain ⟨i029, hi029, _, hsz29, _⟩ := info_parts info5; obtain ⟨A29, hcut29, hA29, hC29⟩ := print_mid_of (P := Try.prog) (Value.int .u8) 0 22 5 .i64 .i64 Try.underlying22 hi029 hsz29 (some ad185) c0 l0 (ji22) (ji15) (of_decide_eq_true (by first | (with_reducible assumption) | assumption)) (by first | omega | exact of_decide_eq_true (by first | (with_reducible assumption) | assumption)) (of_decide_eq_true (by first | (with_reducible assumption) | assumption)) HC0.out; have HR187 := Aside0.mk (Kd.C_of_reads (h1 := fun _ => rfl) (hA29 _ (Kd.reads_of_C HR0.out))); have HC187 := Aside0.mk hC29; clear hA29 hC29 hi029 hsz29) | (go_at_call 41; (try rw [show (ji15.toNat - ji22.toNat) = ((l0.take (ji15 : Int).toNat).drop (ji22 : Int).toNat).length from by rw [List.length_drop, List.length_take]; omega]); (with_reducible refine (bytes_Clone.calls _ _ ((l0.take (ji15 : Int).toNat).drop (ji22 : Int).toNat) t188 _ ?side1 ?side2 A26.out).mono ?_); (case side1 => repeat (first | exact (Kd.C_below HR187.out (by repeat (first | (with_reducible first | exact HB.out | apply below_alloc | apply pw_below_drewN | apply below_drew1) | exact HB.out))) | (with_reducible refine Kd.C_alloc ?_ _) | (with_reducible refine Kd.C_drewN ?_ _) | (with_reducible refine Kd.C_drew ?_))); (case side2 => exact HC187.out); rintro e w30 ⟨v189, rfl, ho0, hb⟩; have n0_ := Aside0.mk (Kd.N_below (by (with_reducible repeat (first | apply Kd.N_alloc | apply Kd.N_drewN | apply Kd.N_drew)); exact HO_4.out) hb); have n1_ := Aside0.mk (Kd.V_lower (Kd.V_mono (ok' := fun k_ => (w.heap.size ≤ k_) ∧ some k_ ≠ (.slice Ao5 x4_1.length co5 : Value).ownBlock) ho0 (fun k_ hk_ => ⟨(Nat.le_trans (below_size (by repeat (first | (with_reducible first | exact HB.out | apply below_alloc | apply pw_below_drewN | apply below_drew1) | exact HB.out))) hk_), (Kd.fresh' (Kd.N_lt (by (with_reducible repeat (first | apply Kd.N_alloc | apply Kd.N_drewN | apply Kd.N_drew)); exact HO_4.out)) k_ hk_)⟩)) (below_size (by repeat (first | (with_reducible first | exact HB.out | apply below_alloc | apply pw_below_drewN | apply below_drew1) | exact HB.out)))); have n2_ := Aside0.mk (below_step (by repeat (first | (with_reducible first | exact HB.out | apply below_alloc | apply pw_below_drewN | apply below_drew1) | exact HB.out)) hb); clear HO_4; clear HB; have HO_4 := n0_; have HO190 := n1_; have HB := n2_; clear n0_ n1_ n2_; (try clear hb); (try clear hb2); (try clear hk); (try clear hi); (try clear ho0); obtain ⟨Ao31, co31, eo31⟩ := Kd.V_slice HO190.out; subst eo31) | ((with_reducible refine gate_builtin (b := .append) (xs := #[.tmp 56, .tmp 65]) rfl ?_); at_builtin; refine Kd.N_append k73 (w0 := w) w.heap.size rfl (.tmp 56) (.tmp 65) 45 73 (.agg #[(.int .u8 0), (.slice none 0 0)]) 32 rfl Try.underlying45 info73 rfl (by decide) (by omega) (.slice Ao5 x4_1.length co5) x4_1 (⟨t180, t188⟩ : S73) [.int .u8 t180, .slice Ao31 t188.length co31] (fun k_ => (w.heap.size ≤ k_)) (fun k_ => ((fun k_ => (w.heap.size ≤ k_))) k_ ∧ some k_ ≠ (.slice Ao5 x4_1.length co5 : Value).ownBlock) rfl rfl ?aP (fun _ hk => hk) ?aF ?aO ?aB ?aS ?aL ?_; (case aP => exact (k73_mkF _ _ (⟨t180, t188⟩ : S73) (Kd.V_reads' (Kd.V_mono (ok' := (fun k_ => ((fun k_ => (w.heap.size ≤ k_))) k_ ∧ some k_ ≠ (.slice Ao5 x4_1.length co5 : Value).ownBlock)) (HO190.out) (fun k_ hk => ⟨hk.1, hk.2⟩))).2.1 (Kd.V_F (Kd.V_mono (ok' := (fun k_ => ((fun k_ => (w.heap.size ≤ k_))) k_ ∧ some k_ ≠ (.slice Ao5 x4_1.length co5 : Value).ownBlock)) (HO190.out) (fun k_ hk => ⟨hk.1, hk.2⟩))))); (case aB => exact (by repeat (first | (with_reducible first | exact HB.out | apply below_alloc | apply pw_below_drewN | apply below_drew1) | exact HB.out))); (case aF => exact (fun k_ hk => (Nat.le_trans (below_size (by repeat (first | (with_reducible first | exact HB.out | apply below_alloc | apply pw_below_drewN | apply below_drew1) | exact HB.out))) hk))); (case aO => exact (by (with_reducible repeat (first | apply Kd.N_alloc | apply Kd.N_drewN | apply Kd.N_drew)); exact HO_4.out)); (case aS => exact (below_size (by repeat (first | (with_reducible first | exact HB.out | apply below_alloc | apply pw_below_drewN | apply below_drew1) | exact HB.out)))); (case aL => have := LMc27.out; omega); intro v192 w32 ho hb hg hat; rw [← Ny191.out] at ho; have n0_ := Aside0.mk (Kd.V_afterv (ok := (fun k_ => (w.heap.size ≤ k_))) (by (with_reducible repeat (first | apply Kd.V_alloc | apply Kd.V_drewN | apply Kd.V_drew)); exact HO190.out) hg hat); have n1_ := Aside0.mk (hb); have n2_ := Aside0.mk (ho); clear HO190; clear HB; clear HO_4; have HO190 := n0_; have HB := n1_; have HO193 := n2_; clear n0_ n1_ n2_; clear ho hb hg hat)); try go_wp2_with (first | (go_at_call 40; (try rw [show (ji15.toNat - x5_1.toNat) = ((l0.take (ji15 : Int).toNat).drop (x5_1 : Int).toNat).length from by rw [List.length_drop, List.length_take]; omega]); (with_reducible refine (seal_Short.calls kj3 _ _ ((l0.take (ji15 : Int).toNat).drop (x5_1 : Int).toNat) t184 _ ?side1 ?side2 A14.out).mono ?_); (case side1 => repeat (first | exact (Kd.C_below HR183.out HB.out) | (with_reducible refine Kd.C_alloc ?_ _) | (with_reducible refine Kd.C_drewN ?_ _) | (with_reducible refine Kd.C_drew ?_))); (case side2 => exact HC183.out); rintro e w' ⟨rfl, ⟨nd, rfl⟩⟩; (try first | exact ⟨rfl, _, World.drewN_drewN _ _ _⟩ | exact ⟨rfl, _, Eq.trans (World.drewN_drewN _ _ _) (congrArg (World.drewN _) (Nat.add_assoc _ _ _))⟩); have p185 : 0 ≤ ((ji15) : Int) := of_decide_eq_true (by first | (with_reducible assumption) | assumption); have q185 : (ji15) < (l0.length : Int) := of_decide_eq_true (by first | (with_reducible assumption) | assumption); obtain ⟨ad185, e185, hx185_0⟩ := Kd.at_int HR0.out (ji15) p185 q185; cases e185; replace hx185_0 := (HB.out.cell (World.block_lt_of_cell? w _ hx185_0)).trans hx185_0; replace p185 := eq_true p185; replace q185 := eq_true q185; have p186 : 0 ≤ ((ji18) : Int) := of_decide_eq_true (by first | (with_reducible assumption) | assumption); have q186 : (ji18) < (l0.length : Int) := of_decide_eq_true (by first | (with_reducible assumption) | assumption); obtain ⟨ad186, e186, hx186_0⟩ := Kd.at_int HR0.out (ji18) p186 q186; obtain rfl : ad185 = ad186 := (by injection e186); replace hx186_0 := (HB.out.cell (World.block_lt_of_cell? w _ hx186_0)).trans hx186_0; replace p186 := eq_true p186; replace q186 := eq_true q186; obtain ⟨i029, hi029, _, hsz29, _⟩ := info_parts info5; obtain ⟨A29, hcut29, hA29, hC29⟩ := print_mid_of (P := Try.prog) (Value.int .u8) 0 22 5 .i64 .i64 Try.underlying22 hi029 hsz29 (some ad185) c0 l0 (ji22) (ji15) (of_decide_eq_true (by first | (with_reducible assumption) | assumption)) (by first | omega | exact of_decide_eq_true (by first | (with_reducible assumption) | assumption)) (of_decide_eq_true (by first | (with_reducible assumption) | assumption)) HC0.out; have HR187 := Aside0.mk (Kd.C_of_reads (h1 := fun _ => rfl) (hA29 _ (Kd.reads_of_C HR0.out))); have HC187 := Aside0.mk hC29; clear hA29 hC29 hi029 hsz29) | (go_at_call 41; (try rw [show (ji15.toNat - ji22.toNat) = ((l0.take (ji15 : Int).toNat).drop (ji22 : Int).toNat).length from by rw [List.length_drop, List.length_take]; omega]); (with_reducible refine (bytes_Clone.calls _ _ ((l0.take (ji15 : Int).toNat).drop (ji22 : Int).toNat) t188 _ ?side1 ?side2 A26.out).mono ?_); (case side1 => repeat (first | exact (Kd.C_below HR187.out (by repeat (first | (with_reducible first | exact HB.out | apply below_alloc | apply pw_below_drewN | apply below_drew1) | exact HB.out))) | (with_reducible refine Kd.C_alloc ?_ _) | (with_reducible refine Kd.C_drewN ?_ _) | (with_reducible refine Kd.C_drew ?_))); (case side2 => exact HC187.out); rintro e w30 ⟨v189, rfl, ho0, hb⟩; have n0_ := Aside0.mk (Kd.N_below (by (with_reducible repeat (first | apply Kd.N_alloc | apply Kd.N_drewN | apply Kd.N_drew)); exact HO_4.out) hb); have n1_ := Aside0.mk (Kd.V_lower (Kd.V_mono (ok' := fun k_ => (w.heap.size ≤ k_) ∧ some k_ ≠ (.slice Ao5 x4_1.length co5 : Value).ownBlock) ho0 (fun k_ hk_ => ⟨(Nat.le_trans (below_size (by repeat (first | (with_reducible first | exact HB.out | apply below_alloc | apply pw_below_drewN | apply below_drew1) | exact HB.out))) hk_), (Kd.fresh' (Kd.N_lt (by (with_reducible repeat (first | apply Kd.N_alloc | apply Kd.N_drewN | apply Kd.N_drew)); exact HO_4.out)) k_ hk_)⟩)) (below_size (by repeat (first | (with_reducible first | exact HB.out | apply below_alloc | apply pw_below_drewN | apply below_drew1) | exact HB.out)))); have n2_ := Aside0.mk (below_step (by repeat (first | (with_reducible first | exact HB.out | apply below_alloc | apply pw_below_drewN | apply below_drew1) | exact HB.out)) hb); clear HO_4; clear HB; have HO_4 := n0_; have HO190 := n1_; have HB := n2_; clear n0_ n1_ n2_; (try clear hb); (try clear hb2); (try clear hk); (try clear hi); (try clear ho0); obtain ⟨Ao31, co31, eo31⟩ := Kd.V_slice HO190.out; subst eo31) | ((with_reducible refine gate_builtin (b := .append) (xs := #[.tmp 56, .tmp 65]) rfl ?_); at_builtin; refine Kd.N_append k73 (w0 := w) w.heap.size rfl (.tmp 56) (.tmp 65) 45 73 (.agg #[(.int .u8 0), (.slice none 0 0)]) 32 rfl Try.underlying45 info73 rfl (by decide) (by omega) (.slice Ao5 x4_1.length co5) x4_1 (⟨t180, t188⟩ : S73) [.int .u8 t180, .slice Ao31 t188.length co31] (fun k_ => (w.heap.size ≤ k_)) (fun k_ => ((fun k_ => (w.heap.size ≤ k_))) k_ ∧ some k_ ≠ (.slice Ao5 x4_1.length co5 : Value).ownBlock) rfl rfl ?aP (fun _ hk => hk) ?aF ?aO ?aB ?aS ?aL ?_; (case aP => exact (k73_mkF _ _ (⟨t180, t188⟩ : S73) (Kd.V_reads' (Kd.V_mono (ok' := (fun k_ => ((fun k_ => (w.heap.size ≤ k_))) k_ ∧ some k_ ≠ (.slice Ao5 x4_1.length co5 : Value).ownBlock)) (HO190.out) (fun k_ hk => ⟨hk.1, hk.2⟩))).2.1 (Kd.V_F (Kd.V_mono (ok' := (fun k_ => ((fun k_ => (w.heap.size ≤ k_))) k_ ∧ some k_ ≠ (.slice Ao5 x4_1.length co5 : Value).ownBlock)) (HO190.out) (fun k_ hk => ⟨hk.1, hk.2⟩))))); (case aB => exact (by repeat (first | (with_reducible first | exact HB.out | apply below_alloc | apply pw_below_drewN | apply below_drew1) | exact HB.out))); (case aF => exact (fun k_ hk => (Nat.le_trans (below_size (by repeat (first | (with_reducible first | exact HB.out | apply below_alloc | apply pw_below_drewN | apply below_drew1) | exact HB.out))) hk))); (case aO => exact (by (with_reducible repeat (first | apply Kd.N_alloc | apply Kd.N_drewN | apply Kd.N_drew)); exact HO_4.out)); (case aS => exact (below_size (by repeat (first | (with_reducible first | exact HB.out | apply below_alloc | apply pw_below_drewN | apply below_drew1) | exact HB.out)))); (case aL => have := LMc27.out; omega); intro v192 w32 ho hb hg hat; rw [← Ny191.out] at ho; have n0_ := Aside0.mk (Kd.V_afterv (ok := (fun k_ => (w.heap.size ≤ k_))) (by (with_reducible repeat (first | apply Kd.V_alloc | apply Kd.V_drewN | apply Kd.V_drew)); exact HO190.out) hg hat); have n1_ := Aside0.mk (hb); have n2_ := Aside0.mk (ho); clear HO190; clear HB; clear HO_4; have HO190 := n0_; have HB := n1_; have HO193 := n2_; clear n0_ n1_ n2_; clear ho hb hg hat)))
                   go_roundg kj3
                   case measure => have := HK1.out; have := HJ3.out; omega
                   case rel => exact ⟨(y191), (wrap64 ((ji15) + 2)), (by first | rfl | (simp; done) | (simp only [← hji15] <;> (first | rfl | simp)) | (simp [*]; done)), H', ⟨by have := HK1.out; have := HJ3.out; omega⟩, ⟨by (with_reducible repeat (first | apply Kd.N_alloc | apply Kd.N_drewN | apply Kd.N_drew)); exact HO193.out⟩, ⟨by repeat (first | (with_reducible first | exact HB.out | apply below_alloc | apply pw_below_drewN | apply below_drew1) | exact HB.out)⟩⟩
                  ·rw [if_neg c27] at H
                   exact absurd H (by simp)
                 ·rw [if_neg c24] at H
                  exact absurd H (by simp)
                ·rw [if_neg c23] at H
                 exact absurd H (by simp)
               ·rw [if_neg c21] at H
                have c21b0 : (t184 == (Go.bits .or .u16 (IntKind.u16.wrap (rd l0 (ji15))) (IntKind.u16.wrap ((IntKind.u16.wrap (rd l0 (ji18))) * 256)))) = false := beq_eq_false_iff_ne.mpr c21
                have c21b1 : (t184 != (Go.bits .or .u16 (IntKind.u16.wrap (rd l0 (ji15))) (IntKind.u16.wrap ((IntKind.u16.wrap (rd l0 (ji18))) * 256)))) = true := bne_iff_ne.mpr c21
                simp only [Option.some.injEq, Prod.mk.injEq] at H
                obtain ⟨rfl, rfl⟩ := H
                obtain ⟨i033, hi033, _, hsz33, _⟩ := info_parts info5
                try clear hcut28
                obtain ⟨A33, hcut33, hA33, hC33⟩ := print_mid_of (P := Try.prog) (Value.int .u8) 0 22 5 .i64 .i64 Try.underlying22 hi033 hsz33 A0 c0 l0 x5_1 (ji15) (of_decide_eq_true (by first | (with_reducible assumption) | assumption)) (by first | omega | exact of_decide_eq_true (by first | (with_reducible assumption) | assumption)) (of_decide_eq_true (by first | (with_reducible assumption) | assumption)) HC0.out
                have HR183 := Aside0.mk (Kd.C_of_reads (h1 := fun _ => rfl) (hA33 _ (Kd.reads_of_C HR0.out)))
                have HC183 := Aside0.mk hC33
                clear hA33 hC33 hi033 hsz33
                go_wp2_with (first | (go_at_call 40; (try rw [show (ji15.toNat - x5_1.toNat) = ((l0.take (ji15 : Int).toNat).drop (x5_1 : Int).toNat).length from by rw [List.length_drop, List.length_take]; omega]); (with_reducible refine (seal_Short.calls kj3 _ _ ((l0.take (ji15 : Int).toNat).drop (x5_1 : Int).toNat) t184 _ ?side1 ?side2 A14.out).mono ?_); (case side1 => repeat (first | exact (Kd.C_below HR183.out HB.out) | (with_reducible refine Kd.C_alloc ?_ _) | (with_reducible refine Kd.C_drewN ?_ _) | (with_reducible refine Kd.C_drew ?_))); (case side2 => exact HC183.out); rintro e w' ⟨rfl, ⟨nd, rfl⟩⟩; (try first | exact ⟨rfl, _, World.drewN_drewN _ _ _⟩ | exact ⟨rfl, _, Eq.trans (World.drewN_drewN _ _ _) (congrArg (World.drewN _) (Nat.add_assoc _ _ _))⟩); have p185 : 0 ≤ ((ji15) : Int) := of_decide_eq_true (by first | (with_reducible assumption) | assumption); have q185 : (ji15) < (l0.length : Int) := of_decide_eq_true (by first | (with_reducible assumption) | assumption); obtain ⟨ad185, e185, hx185_0⟩ := Kd.at_int HR0.out (ji15) p185 q185; cases e185; replace hx185_0 := (HB.out.cell (World.block_lt_of_cell? w _ hx185_0)).trans hx185_0; replace p185 := eq_true p185; replace q185 := eq_true q185; have p186 : 0 ≤ ((ji18) : Int) := of_decide_eq_true (by first | (with_reducible assumption) | assumption); have q186 : (ji18) < (l0.length : Int) := of_decide_eq_true (by first | (with_reducible assumption) | assumption); obtain ⟨ad186, e186, hx186_0⟩ := Kd.at_int HR0.out (ji18) p186 q186; obtain rfl : ad185 = ad186 := (by injection e186); replace hx186_0 := (HB.out.cell (World.block_lt_of_cell? w _ hx186_0)).trans hx186_0; replace p186 := eq_true p186; replace q186 := eq_true q186))
                try rw [hji15]
                try rw [hji18]
                repeat (go_quiet (first | (go_at_call 40; (try rw [show (ji15.toNat - x5_1.toNat) = ((l0.take (ji15 : Int).toNat).drop (x5_1 : Int).toNat).length from by rw [List.length_drop, List.length_take]; omega]); (with_reducible refine (seal_Short.calls kj3 _ _ ((l0.take (ji15 : Int).toNat).drop (x5_1 : Int).toNat) t184 _ ?side1 ?side2 A14.out).mono ?_); (case side1 => repeat (first | exact (Kd.C_below HR183.out HB.out) | (with_reducible refine Kd.C_alloc ?_ _) | (with_reducible refine Kd.C_drewN ?_ _) | (with_reducible refine Kd.C_drew ?_))); (case side2 => exact HC183.out); rintro e w' ⟨rfl, ⟨nd, rfl⟩⟩; (try first | exact ⟨rfl, _, World.drewN_drewN _ _ _⟩ | exact ⟨rfl, _, Eq.trans (World.drewN_drewN _ _ _) (congrArg (World.drewN _) (Nat.add_assoc _ _ _))⟩); have p185 : 0 ≤ ((ji15) : Int) := of_decide_eq_true (by first | (with_reducible assumption) | assumption); have q185 : (ji15) < (l0.length : Int) := of_decide_eq_true (by first | (with_reducible assumption) | assumption); obtain ⟨ad185, e185, hx185_0⟩ := Kd.at_int HR0.out (ji15) p185 q185; cases e185; replace hx185_0 := (HB.out.cell (World.block_lt_of_cell? w _ hx185_0)).trans hx185_0; replace p185 := eq_true p185; replace q185 := eq_true q185; have p186 : 0 ≤ ((ji18) : Int) := of_decide_eq_true (by first | (with_reducible assumption) | assumption); have q186 : (ji18) < (l0.length : Int) := of_decide_eq_true (by first | (with_reducible assumption) | assumption); obtain ⟨ad186, e186, hx186_0⟩ := Kd.at_int HR0.out (ji18) p186 q186; obtain rfl : ad185 = ad186 := (by injection e186); replace hx186_0 := (HB.out.cell (World.block_lt_of_cell? w _ hx186_0)).trans hx186_0; replace p186 := eq_true p186; replace q186 := eq_true q186)); try go_wp2_with (first | (go_at_call 40; (try rw [show (ji15.toNat - x5_1.toNat) = ((l0.take (ji15 : Int).toNat).drop (x5_1 : Int).toNat).length from by rw [List.length_drop, List.length_take]; omega]); (with_reducible refine (seal_Short.calls kj3 _ _ ((l0.take (ji15 : Int).toNat).drop (x5_1 : Int).toNat) t184 _ ?side1 ?side2 A14.out).mono ?_); (case side1 => repeat (first | exact (Kd.C_below HR183.out HB.out) | (with_reducible refine Kd.C_alloc ?_ _) | (with_reducible refine Kd.C_drewN ?_ _) | (with_reducible refine Kd.C_drew ?_))); (case side2 => exact HC183.out); rintro e w' ⟨rfl, ⟨nd, rfl⟩⟩; (try first | exact ⟨rfl, _, World.drewN_drewN _ _ _⟩ | exact ⟨rfl, _, Eq.trans (World.drewN_drewN _ _ _) (congrArg (World.drewN _) (Nat.add_assoc _ _ _))⟩); have p185 : 0 ≤ ((ji15) : Int) := of_decide_eq_true (by first | (with_reducible assumption) | assumption); have q185 : (ji15) < (l0.length : Int) := of_decide_eq_true (by first | (with_reducible assumption) | assumption); obtain ⟨ad185, e185, hx185_0⟩ := Kd.at_int HR0.out (ji15) p185 q185; cases e185; replace hx185_0 := (HB.out.cell (World.block_lt_of_cell? w _ hx185_0)).trans hx185_0; replace p185 := eq_true p185; replace q185 := eq_true q185; have p186 : 0 ≤ ((ji18) : Int) := of_decide_eq_true (by first | (with_reducible assumption) | assumption); have q186 : (ji18) < (l0.length : Int) := of_decide_eq_true (by first | (with_reducible assumption) | assumption); obtain ⟨ad186, e186, hx186_0⟩ := Kd.at_int HR0.out (ji18) p186 q186; obtain rfl : ad185 = ad186 := (by injection e186); replace hx186_0 := (HB.out.cell (World.block_lt_of_cell? w _ hx186_0)).trans hx186_0; replace p186 := eq_true p186; replace q186 := eq_true q186)))
                go_ret2
                exact ⟨_, by first | rfl | (simp [errW_none, errW_some] <;> rfl) | (simp only [← hji15, ← hji18]; first | rfl | (simp [errW_none, errW_some] <;> rfl)) | (simp [*, errW_none, errW_some] <;> rfl), by first | exact Kd.S_nil _ _ _ _ _ | exact Kd.N_nil _ _ _ _ _ | exact Kd.V_nil _ _ _ _ _ | exact Kd.Q_nil _ _ _ _ _ | exact Kd.R_nil _ _ _ _ _, by repeat (first | (with_reducible first | exact HB.out | apply below_alloc | apply pw_below_drewN | apply below_drew1) | exact HB.out)⟩
              ·rw [if_neg c20] at H
               exact absurd H (by simp)
             ·rw [if_neg c19] at H
              exact absurd H (by simp)
            ·rw [if_neg c17] at H
             exact absurd H (by simp)
           ·rw [if_neg c16] at H
            exact absurd H (by simp)
          ·rw [if_neg c13] at H
           exact absurd H (by simp)
         ·rw [if_neg c12] at H
          exact absurd H (by simp)
        ·rw [if_neg c11] at H
         exact absurd H (by simp)
   ·rw [if_neg c2] at H
    have c2b0 : decide (x5_1 < (l0.length : Int)) = false := decide_eq_false c2
    clear c2
    simp only [Option.some.injEq, Prod.mk.injEq] at H
    obtain ⟨rfl, rfl⟩ := H
    go_wp2
    repeat (go_quiet (fail); try go_wp2)
    go_ret2
    exact ⟨_, by first | rfl | (simp [errW_none, errW_some] <;> rfl) | (simp [*, errW_none, errW_some] <;> rfl), by (with_reducible repeat (first | apply Kd.N_alloc | apply Kd.N_drewN | apply Kd.N_drew)); exact HO_4.out, by repeat (first | (with_reducible first | exact HB.out | apply below_alloc | apply pw_below_drewN | apply below_drew1) | exact HB.out)⟩

end Go.Proofs.Ythnfmoaiejaheaa.PDiskRefuses
