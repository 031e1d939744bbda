-- made by a program of this repo (wip/patch_print.py); not trusted: Lean checks it
import Derived.Test.YthnfmoaiejaheaaPDiskTosx0
import Derived.Test.YthnfmoaiejaheaaPDiskTosx4
import Derived.Test.YthnfmoaiejaheaaPDiskTosx5
namespace Go.Proofs.Ythnfmoaiejaheaa.PDiskTos
open Go.RowKit Go.Proofs.YthnfmoaiejaheaaW.PrintWords Go.Proofs.YthnfmoaiejaheaaW.PrintLast Go.Proofs.YthnfmoaiejaheaaW.PrintMore
attribute [local go_sem] max2_int min2_int max_two min_two max_three min_three max_four min_four   -- for this text's walks alone
set_option linter.unusedVariables false
set_option linter.unusedSimpArgs false

/-! ### block_Size: function 46 -/
def block_Size.l0 : Nat → Int → List (S73) → Int → Int → Option (Int)
 | 0, _, _, _, _ => none
 | k + 1, x3, x6, x7, x8 => if x8 < x7 then (if 0 ≤ x8 then (if x8 < (x6.length : Int) then (block_Size.l0 k (wrap64 (x3 + (wrap64 (1 + (((rd_T73 x6 x8).f1).length : Int))))) x6 x7 (wrap64 (x8 + 1))) else (none)) else (none)) else (some x3)
def block_Size.f (k : Nat) (l0 : List (S73)) : Option (Int) := block_Size.l0 k 0 l0 (l0.length : Int) 0
set_option maxHeartbeats 8000000 in
set_option maxRecDepth 100000 in
theorem block_Size.calls (k : Nat) (A0 : Option Addr) (c0 : Nat) (l0 : List (S73)) (r : Int) (w : World) (hr0 : Kd.C k73 w A0 l0.length l0) (hc0 : l0.length ≤ c0) (h : block_Size.f k l0 = some r) :
  Calls Try.prog 46 #[.slice A0 l0.length c0] w fun e w' => e = .returned (.int .i64 r) ∧ Below w.heap.size w w' := by
 have hu73 := Try.underlying73
 have HR0 := Aside0.mk hr0
 have HC0 := Aside0.mk hc0
 clear hr0 hc0
 have HB := Aside0.mk (Below.refl w.heap.size w)
 have H : (block_Size.l0 k 0 l0 (l0.length : Int) 0) = some r := h
 clear h
 have H' := Aside0.mk H
 clear H
 go_enter Try.func46, Try.ntmps46
 go_wp2
 go_loopg [3, 8] k (fun kq v3 v8 w' => ∃ (x3_1 : Int) (x8_1 : Int), v3 = .int .i64 x3_1 ∧ v8 = .int .i64 x8_1 ∧ Aside0 (block_Size.l0 kq x3_1 l0 (l0.length : Int) x8_1 = some r) ∧ Aside0 (kq ≤ k) ∧ Aside0 (Below w.heap.size w w'))
 case atStart => exact ⟨(0), (0), (by first | rfl | (simp; done) | (simp [*]; done)), (by first | rfl | (simp; done) | (simp [*]; done)), H', ⟨Nat.le_refl _⟩, ⟨by repeat (first | (with_reducible first | exact HB.out | apply below_alloc | apply pw_below_drewN | apply below_drew1) | exact HB.out)⟩⟩
 case round =>
  clear H'
  obtain ⟨x3_1, x8_1, rfl, rfl, HA, HK1, HB⟩ := hrel
  cases gk with
  | zero => exact absurd HA.out (by simp [block_Size.l0])
  | succ k1 =>
   have H := HA.out
   clear HA
   simp only [block_Size.l0] at H
   by_cases c2 : x8_1 < (l0.length : Int)
   ·rw [if_pos c2] at H
    have c2b0 : decide (x8_1 < (l0.length : Int)) = true := decide_eq_true c2
    clear c2
    by_cases c3 : 0 ≤ x8_1
    ·rw [if_pos c3] at H
     have c3b0 : decide (0 ≤ x8_1) = true := decide_eq_true c3
     clear c3
     by_cases c4 : x8_1 < (l0.length : Int)
     ·rw [if_pos c4] at H
      have c4b0 : decide (x8_1 < (l0.length : Int)) = true := decide_eq_true c4
      clear c4
      have H' := Aside0.mk H
      clear H
      have p190 : 0 ≤ (x8_1 : Int) := of_decide_eq_true (by first | (with_reducible assumption) | assumption)
      have q190 : x8_1 < (l0.length : Int) := of_decide_eq_true (by first | (with_reducible assumption) | assumption)
      obtain ⟨ad190, A190_1, c190_1, e190, hx190_0, hx190_1, hl190_1, hi190_1⟩ := at_T73 HR0.out x8_1 p190 q190
      cases e190
      replace hx190_0 := (HB.out.cell (World.block_lt_of_cell? w _ hx190_0)).trans hx190_0
      replace hx190_1 := (HB.out.cell (World.block_lt_of_cell? w _ hx190_1)).trans hx190_1
      have HR190_1 := Aside0.mk hi190_1
      have HC190_1 := Aside0.mk hl190_1
      clear hi190_1 hl190_1
      replace p190 := eq_true p190
      replace q190 := eq_true q190
      go_wp2_with (first | ((with_reducible refine gate_dst (N := 5) rfl ?_); refine box_event ?hg (N := 5) ?hd (cs := #[.int .u8 0, .slice none 0 0]) (t := 73) ?hr ?_; (case hd => rfl); (case hg => rfl); (case hr => first | (go_simp; done) | (go_simp; rfl)); intro gb191 hg w5 hbox hb; have n0_ := Aside0.mk (below_step (by repeat (first | (with_reducible first | exact HB.out | apply below_alloc | apply pw_below_drewN | apply below_drew1) | exact HB.out)) hb); have n1_ := Aside0.mk (hbox); have n2_ := Aside0.mk ((by rw [hg]; exact (below_size (by repeat (first | (with_reducible first | exact HB.out | apply below_alloc | apply pw_below_drewN | apply below_drew1) | exact HB.out))) : w.heap.size ≤ gb191)); have n3_ := Aside0.mk ((by rw [hg]; exact (below_size (by repeat (first | (with_reducible first | exact HB.out | apply below_alloc | apply pw_below_drewN | apply below_drew1) | exact HB.out))) : w.heap.size ≤ gb191)); clear HB; have HB := n0_; have BK191 := n1_; have GW191 := n2_; have GE191 := n3_; clear n0_ n1_ n2_ n3_; clear hb hbox hg; have hcz6_0 : w5.cell? ⟨gb191, 0, none⟩ = some (.int .u8 0) := (blk_cell BK191.out 0).trans rfl; have hcz6_1 : w5.cell? ⟨gb191, 1, none⟩ = some (.slice none 0 0) := (blk_cell BK191.out 1).trans rfl; have hfz6_0 := blk_frozen BK191.out 0; have hfz6_1 := blk_frozen BK191.out 1))
      go_roundg k1
      case measure => have := HK1.out; omega
      case rel => exact ⟨(wrap64 (x3_1 + (wrap64 (1 + (((rd_T73 l0 x8_1).f1).length : Int))))), (wrap64 (x8_1 + 1)), (by first | rfl | (simp; done) | (simp [*]; done)), (by first | rfl | (simp; done) | (simp [*]; done)), H', ⟨by have := HK1.out; omega⟩, ⟨by repeat (first | (with_reducible first | exact HB.out | apply below_alloc | apply pw_below_drewN | apply below_drew1 | refine below_set ?_ GE191.out) | exact HB.out)⟩⟩
     ·rw [if_neg c4] at H
      exact absurd H (by simp)
    ·rw [if_neg c3] at H
     exact absurd H (by simp)
   ·rw [if_neg c2] at H
    have c2b0 : decide (x8_1 < (l0.length : Int)) = false := decide_eq_false c2
    clear c2
    obtain rfl := Option.some.inj H
    go_wp2
    go_ret
    exact ⟨by first | rfl | (simp [errW_none, errW_some] <;> rfl) | (simp [*, errW_none, errW_some] <;> rfl), by repeat (first | (with_reducible first | exact HB.out | apply below_alloc | apply pw_below_drewN | apply below_drew1) | exact HB.out)⟩

/-! ### disk_Wrap: function 24 -/
mutual
def disk_Wrap.j0 : Nat → List (S73) → Bool → Option (List Int × Bool)
 | 0, _, _ => none
 | k + 1, x0, x20 => if x20 = true then (some (([] : List Int), false)) else (disk_Wrap.l0 k ([] : List Int) x0 (x0.length : Int) 0)
def disk_Wrap.l0 : Nat → List Int → List (S73) → Int → Int → Option (List Int × Bool)
 | 0, _, _, _, _ => none
 | k + 1, x4, x21, x22, x23 => if x23 < x22 then (if 0 ≤ x23 then (if x23 < (x21.length : Int) then ((some (([(rd_T73 x21 x23).f0] : List Int) : List Int)).bind fun y196 => (if y196.length + ((rd_T73 x21 x23).f1).length < 140737488355328 then ((some (y196 ++ ((rd_T73 x21 x23).f1) : List Int)).bind fun y199 => ((seal_Short.f k y199).bind fun t202 => (if x4.length + y199.length < 140737488355328 then ((some (x4 ++ y199 : List Int)).bind fun y203 => ((some (([(t202) % 256, (t202 / 256) % 256] : List Int) : List Int)).bind fun y206 => (if y203.length + y206.length < 140737488355328 then (disk_Wrap.l0 k (y203 ++ y206) x21 x22 (wrap64 (x23 + 1))) else (none)))) else (none)))) else (none))) else (none)) else (none)) else (if 0 ≤ (wrap64 (65536 - (x4.length : Int))) then (if x4.length + (wrap64 (65536 - (x4.length : Int)) : Int).toNat < 140737488355328 then (some ((x4 ++ List.replicate (wrap64 (65536 - (x4.length : Int)) : Int).toNat 0), true)) else (none)) else (none))
end
def disk_Wrap.f (k : Nat) (l0 : List (S73)) : Option (List Int × Bool) := (block_Right.f k l0).bind fun t192 => (if t192 = true then ((block_Size.f k l0).bind fun t193 => (disk_Wrap.j0 k l0 (decide ((wrap64 (t193 + (wrap64 (2 * (l0.length : Int))))) > 65536)))) else (disk_Wrap.j0 k l0 true))
set_option maxHeartbeats 8000000 in
set_option maxRecDepth 100000 in
theorem disk_Wrap.calls (k : Nat) (A0 : Option Addr) (c0 : Nat) (l0 : List (S73)) (r1 : List Int) (r2 : Bool) (w : World) (hr0 : Kd.C k73 w A0 l0.length l0) (hc0 : l0.length ≤ c0) (h : disk_Wrap.f k l0 = some (r1, r2)) :
  Calls Try.prog 24 #[.slice A0 l0.length c0] w fun e w' => ∃ v0_ : Value, e = .returned (.tuple #[v0_, .bool r2]) ∧ Kd.R (Kd.int .u8) 5 w' w.heap.size (fun _ => True) v0_ r1 ∧ Below w.heap.size w w' := by
 have hu73 := Try.underlying73
 have HR0 := Aside0.mk hr0
 have HC0 := Aside0.mk hc0
 clear hr0 hc0
 have HB := Aside0.mk (Below.refl w.heap.size w)
 have H : ((block_Right.f k l0).bind fun t192 => (if t192 = true then ((block_Size.f k l0).bind fun t193 => (disk_Wrap.j0 k l0 (decide ((wrap64 (t193 + (wrap64 (2 * (l0.length : Int))))) > 65536)))) else (disk_Wrap.j0 k l0 true))) = some (r1, r2) := h
 clear h
 have HC2 := Aside0.mk H
 clear H
 go_enter Try.func24, Try.ntmps24
 go_upto_region 1 with (fail)
 go_cut [20] (fun v20 wc => ∃ (kq : Nat) (x20_1 : Bool), v20 = .bool x20_1 ∧ Aside0 (disk_Wrap.j0 kq l0 x20_1 = some (r1, r2)) ∧ Aside0 (kq ≤ k) ∧ Aside0 (Below w.heap.size w wc))
 case first =>
  have H := HC2.out
  clear HC2
  replace H := Option.bind_eq_some_iff.mp H
  obtain ⟨t192, A30, H⟩ := H
  replace H : (if t192 = true then ((block_Size.f k l0).bind fun t193 => (disk_Wrap.j0 k l0 (decide ((wrap64 (t193 + (wrap64 (2 * (l0.length : Int))))) > 65536)))) else (disk_Wrap.j0 k l0 true)) = some (r1, r2) := H
  have A3 := Aside0.mk A30
  clear A30
  by_cases c4 : t192 = true
  ·subst c4
   have H1 : ((block_Size.f k l0).bind fun t193 => (disk_Wrap.j0 k l0 (decide ((wrap64 (t193 + (wrap64 (2 * (l0.length : Int))))) > 65536)))) = some (r1, r2) := by rw [if_pos rfl] at H; exact H
   clear H
   have H := H1
   clear H1
   replace H := Option.bind_eq_some_iff.mp H
   obtain ⟨t193, A50, H⟩ := H
   replace H : (disk_Wrap.j0 k l0 (decide ((wrap64 (t193 + (wrap64 (2 * (l0.length : Int))))) > 65536))) = some (r1, r2) := H
   have A5 := Aside0.mk A50
   clear A50
   have H' := Aside0.mk H
   clear H
   go_wp2_with (first | ((with_reducible refine gate_callee (f := 45) rfl ?_); refine goesL_ (some 10) rfl rfl Try.func45 (by kernel_rfl) rfl #[.slice A0 l0.length c0] rfl (by (try simp only [List.map_toArray, List.map_cons, List.map_nil]); first | done | rfl | (simp only [List.length_drop, List.length_take]; rfl)) ?_; (with_reducible refine (block_Right.calls k (fun k_ => k_ < w.heap.size) _ _ l0 true _ ?side1 A3.out).mono ?_); (case side1 => exact Kd.V_mk HC0.out (Kd.F_below (Kd.C_F k73_heap HR0.out) (by repeat (first | (with_reducible first | exact HB.out | apply below_alloc | apply pw_below_drewN | apply below_drew1) | exact HB.out)))); rintro e w6 ⟨rfl, hb⟩; refine ⟨_, rfl, ?_⟩; have n0_ := Aside0.mk (below_step (by repeat (first | (with_reducible first | exact HB.out | apply below_alloc | apply pw_below_drewN | apply below_drew1) | exact HB.out)) hb); clear HB; have HB := n0_; clear n0_; (try clear hb); (try clear hb2); (try clear hk); (try clear hi)) | (go_at_call 46; (with_reducible refine (block_Size.calls k _ _ l0 t193 _ ?side1 ?side2 A5.out).mono ?_); (case side1 => repeat (first | exact (Kd.C_below HR0.out HB.out) | (with_reducible refine Kd.C_alloc ?_ _) | (with_reducible refine Kd.C_drewN ?_ _) | (with_reducible refine Kd.C_drew ?_))); (case side2 => exact HC0.out); rintro e w7 ⟨rfl, hb⟩; have n0_ := Aside0.mk (below_step (by repeat (first | (with_reducible first | exact HB.out | apply below_alloc | apply pw_below_drewN | apply below_drew1) | exact HB.out)) hb); clear HB; have HB := n0_; clear n0_; (try clear hb); (try clear hb2); (try clear hk); (try clear hi)))
   go_meet
   case rel => exact ⟨_, (decide ((wrap64 (t193 + (wrap64 (2 * (l0.length : Int))))) > 65536)), (by first | rfl | (simp; done) | (simp [*]; done)), H', ⟨by first | omega | exact Nat.le_refl _⟩, ⟨by repeat (first | (with_reducible first | exact HB.out | apply below_alloc | apply pw_below_drewN | apply below_drew1) | exact HB.out)⟩⟩
  ·replace c4 := Bool.eq_false_iff.mpr c4
   subst c4
   have H1 : (disk_Wrap.j0 k l0 true) = some (r1, r2) := by rw [if_neg (show ¬ (false = true) by decide)] at H; exact H
   clear H
   have H := H1
   clear H1
   have H' := Aside0.mk H
   clear H
   go_wp2_with (first | ((with_reducible refine gate_callee (f := 45) rfl ?_); refine goesL_ (some 10) rfl rfl Try.func45 (by kernel_rfl) rfl #[.slice A0 l0.length c0] rfl (by (try simp only [List.map_toArray, List.map_cons, List.map_nil]); first | done | rfl | (simp only [List.length_drop, List.length_take]; rfl)) ?_; (with_reducible refine (block_Right.calls k (fun k_ => k_ < w.heap.size) _ _ l0 false _ ?side1 A3.out).mono ?_); (case side1 => exact Kd.V_mk HC0.out (Kd.F_below (Kd.C_F k73_heap HR0.out) (by repeat (first | (with_reducible first | exact HB.out | apply below_alloc | apply pw_below_drewN | apply below_drew1) | exact HB.out)))); rintro e w8 ⟨rfl, hb⟩; refine ⟨_, rfl, ?_⟩; have n0_ := Aside0.mk (below_step (by repeat (first | (with_reducible first | exact HB.out | apply below_alloc | apply pw_below_drewN | apply below_drew1) | exact HB.out)) hb); clear HB; have HB := n0_; clear n0_; (try clear hb); (try clear hb2); (try clear hk); (try clear hi)))
   go_meet
   case rel => exact ⟨_, (true), (by first | rfl | (simp; done) | (simp [*]; done)), H', ⟨by first | omega | exact Nat.le_refl _⟩, ⟨by repeat (first | (with_reducible first | exact HB.out | apply below_alloc | apply pw_below_drewN | apply below_drew1) | exact HB.out)⟩⟩
 case rest =>
  clear HC2
  try clear c2
  try clear p2
  try clear c4
  try clear p6
  obtain ⟨kq, x20_1, rfl, HA, HJ1, HB⟩ := hcut
  cases kq with
  | zero => exact absurd HA.out (by simp [disk_Wrap.j0])
  | succ kj1 =>
   have H := HA.out
   clear HA
   simp only [disk_Wrap.j0] at H
   by_cases c9 : x20_1 = true
   ·subst c9
    have H1 : (some (([] : List Int), false)) = some (r1, r2) := by rw [if_pos rfl] at H; exact H
    clear H
    have H := H1
    clear H1
    simp only [Option.some.injEq, Prod.mk.injEq] at H
    obtain ⟨rfl, rfl⟩ := H
    go_wp2
    go_ret2
    exact ⟨_, by first | rfl | (simp [errW_none, errW_some] <;> rfl) | (simp [*, errW_none, errW_some] <;> rfl), by first | exact Kd.R_nil _ _ _ _ _ | exact Kd.N_nil _ _ _ _ _ | exact Kd.V_nil _ _ _ _ _ | exact Kd.Q_nil _ _ _ _ _ | exact Kd.S_nil _ _ _ _ _, by repeat (first | (with_reducible first | exact HB.out | apply below_alloc | apply pw_below_drewN | apply below_drew1) | exact HB.out)⟩
   ·replace c9 := Bool.eq_false_iff.mpr c9
    subst c9
    have H1 : (disk_Wrap.l0 kj1 ([] : List Int) l0 (l0.length : Int) 0) = some (r1, r2) := by rw [if_neg (show ¬ (false = true) by decide)] at H; exact H
    clear H
    have H := H1
    clear H1
    have H' := Aside0.mk H
    clear H
    go_wp2
    go_loopg [4, 23] kj1 (fun kq v4 v23 w' => ∃ (x4_2 : List Int) (x23_2 : Int), v23 = .int .i64 x23_2 ∧ Aside0 (disk_Wrap.l0 kq x4_2 l0 (l0.length : Int) x23_2 = some (r1, r2)) ∧ Aside0 (kq ≤ kj1) ∧ Aside0 (Kd.R (Kd.int .u8) 5 w' w.heap.size (fun _ => True) v4 x4_2) ∧ Aside0 (Below w.heap.size w w'))
    case atStart => exact ⟨(([] : List Int)), (0), (by first | rfl | (simp; done) | (simp [*]; done)), H', ⟨Nat.le_refl _⟩, ⟨by first | exact Kd.R_nil _ _ _ _ _ | exact Kd.N_nil _ _ _ _ _ | exact Kd.V_nil _ _ _ _ _ | exact Kd.Q_nil _ _ _ _ _ | exact Kd.S_nil _ _ _ _ _⟩, ⟨by repeat (first | (with_reducible first | exact HB.out | apply below_alloc | apply pw_below_drewN | apply below_drew1) | exact HB.out)⟩⟩
    case round =>
     clear H'
     try clear c2
     try clear p2
     try clear c4
     try clear p6
     try clear c9
     try clear p2
     try clear p6
     obtain ⟨x4_2, x23_2, rfl, HA, HK2, HO_4, HB⟩ := hrel
     cases gk with
     | zero => exact absurd HA.out (by simp [disk_Wrap.l0])
     | succ k2 =>
      have H := HA.out
      clear HA
      simp only [disk_Wrap.l0] at H
      by_cases c10 : x23_2 < (l0.length : Int)
      ·rw [if_pos c10] at H
       have c10b0 : decide (x23_2 < (l0.length : Int)) = true := decide_eq_true c10
       clear c10
       by_cases c11 : 0 ≤ x23_2
       ·rw [if_pos c11] at H
        have c11b0 : decide (0 ≤ x23_2) = true := decide_eq_true c11
        clear c11
        by_cases c12 : x23_2 < (l0.length : Int)
        ·rw [if_pos c12] at H
         have c12b0 : decide (x23_2 < (l0.length : Int)) = true := decide_eq_true c12
         clear c12
         obtain ⟨y196, hy196⟩ : ∃ y_ : List Int, y_ = (([(rd_T73 l0 x23_2).f0] : List Int)) := ⟨_, rfl⟩
         replace H : (if y196.length + ((rd_T73 l0 x23_2).f1).length < 140737488355328 then ((some (y196 ++ ((rd_T73 l0 x23_2).f1) : List Int)).bind fun y199 => ((seal_Short.f k2 y199).bind fun t202 => (if x4_2.length + y199.length < 140737488355328 then ((some (x4_2 ++ y199 : List Int)).bind fun y203 => ((some (([(t202) % 256, (t202 / 256) % 256] : List Int) : List Int)).bind fun y206 => (if y203.length + y206.length < 140737488355328 then (disk_Wrap.l0 k2 (y203 ++ y206) l0 (l0.length : Int) (wrap64 (x23_2 + 1))) else (none)))) else (none)))) else (none)) = some (r1, r2) := by first | (rw [hy196]; with_reducible exact H) | (have H2_ := (Option.bind_some _ _).symm.trans H; rw [hy196]; with_reducible exact H2_) | (have H2_ := (Option.bind_some _ _).symm.trans H; with_reducible exact H2_) | with_reducible exact H | (rw [hy196]; exact H) | exact H
         have Ny196 := Aside0.mk hy196
         clear hy196
         by_cases c13 : y196.length + ((rd_T73 l0 x23_2).f1).length < 140737488355328
         ·rw [if_pos c13] at H
          have LMc13 := Aside0.mk c13
          clear c13
          obtain ⟨y199, hy199⟩ : ∃ y_ : List Int, y_ = (y196 ++ ((rd_T73 l0 x23_2).f1)) := ⟨_, rfl⟩
          replace H : ((seal_Short.f k2 y199).bind fun t202 => (if x4_2.length + y199.length < 140737488355328 then ((some (x4_2 ++ y199 : List Int)).bind fun y203 => ((some (([(t202) % 256, (t202 / 256) % 256] : List Int) : List Int)).bind fun y206 => (if y203.length + y206.length < 140737488355328 then (disk_Wrap.l0 k2 (y203 ++ y206) l0 (l0.length : Int) (wrap64 (x23_2 + 1))) else (none)))) else (none))) = some (r1, r2) := by first | (rw [hy199]; with_reducible exact H) | (have H2_ := (Option.bind_some _ _).symm.trans H; rw [hy199]; with_reducible exact H2_) | (have H2_ := (Option.bind_some _ _).symm.trans H; with_reducible exact H2_) | with_reducible exact H | (rw [hy199]; exact H) | exact H
          have Ny199 := Aside0.mk hy199
          clear hy199
          replace H := Option.bind_eq_some_iff.mp H
          obtain ⟨t202, A140, H⟩ := H
          replace H : (if x4_2.length + y199.length < 140737488355328 then ((some (x4_2 ++ y199 : List Int)).bind fun y203 => ((some (([(t202) % 256, (t202 / 256) % 256] : List Int) : List Int)).bind fun y206 => (if y203.length + y206.length < 140737488355328 then (disk_Wrap.l0 k2 (y203 ++ y206) l0 (l0.length : Int) (wrap64 (x23_2 + 1))) else (none)))) else (none)) = some (r1, r2) := H
          have A14 := Aside0.mk A140
          clear A140
          by_cases c15 : x4_2.length + y199.length < 140737488355328
          ·rw [if_pos c15] at H
           have LMc15 := Aside0.mk c15
           clear c15
           obtain ⟨y203, hy203⟩ : ∃ y_ : List Int, y_ = (x4_2 ++ y199) := ⟨_, rfl⟩
           replace H : ((some (([(t202) % 256, (t202 / 256) % 256] : List Int) : List Int)).bind fun y206 => (if y203.length + y206.length < 140737488355328 then (disk_Wrap.l0 k2 (y203 ++ y206) l0 (l0.length : Int) (wrap64 (x23_2 + 1))) else (none))) = some (r1, r2) := by first | (rw [hy203]; with_reducible exact H) | (have H2_ := (Option.bind_some _ _).symm.trans H; rw [hy203]; with_reducible exact H2_) | (have H2_ := (Option.bind_some _ _).symm.trans H; with_reducible exact H2_) | with_reducible exact H | (rw [hy203]; exact H) | exact H
           have Ny203 := Aside0.mk hy203
           clear hy203
           obtain ⟨y206, hy206⟩ : ∃ y_ : List Int, y_ = (([(t202) % 256, (t202 / 256) % 256] : List Int)) := ⟨_, rfl⟩
           replace H : (if y203.length + y206.length < 140737488355328 then (disk_Wrap.l0 k2 (y203 ++ y206) l0 (l0.length : Int) (wrap64 (x23_2 + 1))) else (none)) = some (r1, r2) := by first | (rw [hy206]; with_reducible exact H) | (have H2_ := (Option.bind_some _ _).symm.trans H; rw [hy206]; with_reducible exact H2_) | (have H2_ := (Option.bind_some _ _).symm.trans H; with_reducible exact H2_) | with_reducible exact H | (rw [hy206]; exact H) | exact H
           have Ny206 := Aside0.mk hy206
           clear hy206
           by_cases c16 : y203.length + y206.length < 140737488355328
           ·rw [if_pos c16] at H
            have LMc16 := Aside0.mk c16
            clear c16
            obtain ⟨y209, hy209⟩ : ∃ y_ : List Int, y_ = (y203 ++ y206) := ⟨_, rfl⟩
            replace H : (disk_Wrap.l0 k2 y209 l0 (l0.length : Int) (wrap64 (x23_2 + 1))) = some (r1, r2) := by first | (rw [hy209]; with_reducible exact H) | (have H2_ := (Option.bind_some _ _).symm.trans H; rw [hy209]; with_reducible exact H2_) | (have H2_ := (Option.bind_some _ _).symm.trans H; with_reducible exact H2_) | with_reducible exact H | (rw [hy209]; exact H) | exact H
            have Ny209 := Aside0.mk hy209
            clear hy209
            have H' := Aside0.mk H
            clear H
            have p194 : 0 ≤ (x23_2 : Int) := of_decide_eq_true (by first | (with_reducible assumption) | assumption)
            have q194 : x23_2 < (l0.length : Int) := of_decide_eq_true (by first | (with_reducible assumption) | assumption)
            obtain ⟨ad194, A194_1, c194_1, e194, hx194_0, hx194_1, hl194_1, hi194_1⟩ := at_T73 HR0.out x23_2 p194 q194
            cases e194
            replace hx194_0 := (HB.out.cell (World.block_lt_of_cell? w _ hx194_0)).trans hx194_0
            replace hx194_1 := (HB.out.cell (World.block_lt_of_cell? w _ hx194_1)).trans hx194_1
            have HR194_1 := Aside0.mk hi194_1
            have HC194_1 := Aside0.mk hl194_1
            clear hi194_1 hl194_1
            replace p194 := eq_true p194
            replace q194 := eq_true q194
            go_wp2_with (first | ((with_reducible refine gate_dst (N := 6) rfl ?_); (try (refine gate_guard (by rfl) ?_; dsimp only)); refine box_event ?hg (N := 6) ?hd (cs := #[.int .u8 0, .slice none 0 0]) (t := 73) ?hr ?_; (case hd => rfl); (case hg => rfl); (case hr => first | (go_simp; done) | (go_simp; rfl)); intro gb195 hg w17 hbox hb; have n0_ := Aside0.mk (Kd.R_below (by (with_reducible repeat (first | apply Kd.R_alloc | apply Kd.R_drewN | apply Kd.R_drew)); exact HO_4.out) hb); have n1_ := Aside0.mk (below_step (by repeat (first | (with_reducible first | exact HB.out | apply below_alloc | apply pw_below_drewN | apply below_drew1) | exact HB.out)) hb); have n2_ := Aside0.mk (hbox); have n3_ := Aside0.mk ((by rw [hg]; exact (below_size (by repeat (first | (with_reducible first | exact HB.out | apply below_alloc | apply pw_below_drewN | apply below_drew1) | exact HB.out))) : w.heap.size ≤ gb195)); have n4_ := Aside0.mk ((by rw [hg]; exact (below_size (by repeat (first | (with_reducible first | exact HB.out | apply below_alloc | apply pw_below_drewN | apply below_drew1) | exact HB.out))) : w.heap.size ≤ gb195)); clear HO_4; clear HB; have HO_4 := n0_; have HB := n1_; have BK195 := n2_; have GW195 := n3_; have GE195 := n4_; clear n0_ n1_ n2_ n3_ n4_; clear hb hbox hg; have hcz18_0 : w17.cell? ⟨gb195, 0, none⟩ = some (.int .u8 0) := (blk_cell BK195.out 0).trans rfl; have hcz18_1 : w17.cell? ⟨gb195, 1, none⟩ = some (.slice none 0 0) := (blk_cell BK195.out 1).trans rfl; have hfz18_0 := blk_frozen BK195.out 0; have hfz18_1 := blk_frozen BK195.out 1) | ((with_reducible refine gate_dst (N := 29) rfl ?_); (try (refine gate_guard (by rfl) ?_; dsimp only)); refine Kd.R_lit (Kd.int .u8) _ 5 ?hg (N := 29) ?hd (xs := ([(rd_T73 l0 x23_2).f0] : List Int)) (inner := [.int .u8 ((rd_T73 l0 x23_2).f0)]) (ok := fun _ => True) (okp := fun _ => True) ?hr ?hp (fun _ hk => hk) trivial (Below.refl _ _) (Nat.le_refl _) (by simp) ?_; (case hd => rfl); (case hg => rfl); (case hr => first | (go_simp; done) | (go_simp; rfl)); (case hp => exact (Reps.one (show Kd.M (Kd.int .u8) _ _ _ ((rd_T73 l0 x23_2).f0) [.int .u8 ((rd_T73 l0 x23_2).f0)] from rfl) (Reps.none _ _))); intro v197 w19 ho20 hb hg_ hnew_; clear hg_ hnew_; (first | rw [← Ny196.out] at ho20 | (simp only [Int.reduceToNat] at ho20; rw [← Ny196.out] at ho20)); have n0_ := Aside0.mk (Kd.R_elder' (by (with_reducible repeat (first | apply Kd.R_alloc | apply Kd.R_drewN | apply Kd.R_drew)); exact (Kd.R_mono (Kd.R_far (p := ⟨gb195, 1, none⟩) (Kd.R_far (p := ⟨gb195, 0, none⟩) (Kd.R_types HO_4.out BK195.out (by decide)) (fun _ hk => hk.2) (.int .u8 ((rd_T73 l0 x23_2).f0))) (fun _ hk => hk.2) (.slice A194_1 ((rd_T73 l0 x23_2).f1).length c194_1)) (fun _ h_ => h_.1))) (Kd.R_base ho20) hb); have n1_ := Aside0.mk (Kd.R_lower (Kd.R_new' ho20 (Kd.R_lt (by (with_reducible repeat (first | apply Kd.R_alloc | apply Kd.R_drewN | apply Kd.R_drew)); exact (Kd.R_mono (Kd.R_far (p := ⟨gb195, 1, none⟩) (Kd.R_far (p := ⟨gb195, 0, none⟩) (Kd.R_types HO_4.out BK195.out (by decide)) (fun _ hk => hk.2) (.int .u8 ((rd_T73 l0 x23_2).f0))) (fun _ hk => hk.2) (.slice A194_1 ((rd_T73 l0 x23_2).f1).length c194_1)) (fun _ h_ => h_.1))))) (below_size (by repeat (first | (with_reducible first | exact HB.out | apply below_alloc | apply pw_below_drewN | apply below_drew1 | refine below_set ?_ GE195.out) | exact HB.out)))); have n2_ := Aside0.mk (blk_below (g := gb195) (o := .cells #[.int .u8 ((rd_T73 l0 x23_2).f0), .slice A194_1 ((rd_T73 l0 x23_2).f1).length c194_1] 73 (0, 0)) (by (with_reducible repeat (first | refine blk_drewN ?_ _ | refine blk_drew ?_ | refine blk_alloc ?_ _)); refine blk_put (cs := #[.int .u8 ((rd_T73 l0 x23_2).f0), .slice none 0 0]) ?_ 1 _ rfl; (with_reducible repeat (first | refine blk_drewN ?_ _ | refine blk_drew ?_ | refine blk_alloc ?_ _)); refine blk_put (cs := #[.int .u8 0, .slice none 0 0]) ?_ 0 _ rfl; (with_reducible repeat (first | refine blk_drewN ?_ _ | refine blk_drew ?_ | refine blk_alloc ?_ _)); exact BK195.out) hb); have n3_ := Aside0.mk (below_step (by repeat (first | (with_reducible first | exact HB.out | apply below_alloc | apply pw_below_drewN | apply below_drew1 | refine below_set ?_ GE195.out) | exact HB.out)) hb); clear HO_4; clear BK195; clear HB; have HO_4 := n0_; have HO198 := n1_; have BK195 := n2_; have HB := n3_; clear n0_ n1_ n2_ n3_; clear hb ho20; have hcz21_0 : w19.cell? ⟨gb195, 0, none⟩ = some (.int .u8 ((rd_T73 l0 x23_2).f0)) := (blk_cell BK195.out 0).trans rfl; have hcz21_1 : w19.cell? ⟨gb195, 1, none⟩ = some (.slice A194_1 ((rd_T73 l0 x23_2).f1).length c194_1) := (blk_cell BK195.out 1).trans rfl; have hfz21_0 := blk_frozen BK195.out 0; have hfz21_1 := blk_frozen BK195.out 1) | ((with_reducible refine gate_builtin (b := .append) (xs := #[.tmp 29, .tmp 31]) rfl ?_); (try (refine gate_guard (by rfl) ?_; dsimp only)); at_builtin; refine Kd.R_append_rows (Kd.int .u8) (w0 := w) w.heap.size rfl (.tmp 29) (.tmp 31) 22 5 (.int .u8 0) 1 rfl Try.underlying22 info5 rfl (by decide) (by omega) v197 y196 ((rd_T73 l0 x23_2).f1) _ _ _ (fun k_ => some k_ ≠ (u4 : Value).ownBlock) (fun _ => False) rfl rfl ?aO ?aR (fun _ _ h => h) (fun _ h => h.elim) ?aF ?aB ?aS ?aL ?_; (case aR => repeat (first | exact (Kd.C_below HR194_1.out HB.out) | (with_reducible refine Kd.C_alloc ?_ _) | (with_reducible refine Kd.C_drewN ?_ _) | (with_reducible refine Kd.C_drew ?_))); (case aB => exact (by repeat (first | (with_reducible first | exact HB.out | apply below_alloc | apply pw_below_drewN | apply below_drew1 | refine below_set ?_ GE195.out) | exact HB.out))); (case aF => exact (fun k_ hk => Kd.fresh' (Kd.R_lt (by (with_reducible repeat (first | apply Kd.R_alloc | apply Kd.R_drewN | apply Kd.R_drew)); exact HO_4.out)) k_ hk)); (case aO => exact (by (with_reducible repeat (first | apply Kd.R_alloc | apply Kd.R_drewN | apply Kd.R_drew)); exact Kd.R_mono HO198.out (fun _ hk => hk.2))); (case aS => exact (below_size (by repeat (first | (with_reducible first | exact HB.out | apply below_alloc | apply pw_below_drewN | apply below_drew1 | refine below_set ?_ GE195.out) | exact HB.out)))); (case aL => have := LMc13.out; omega); intro v200 w22 ho hb hg hat; (first | rw [← Ny199.out] at ho | (simp only [Int.reduceToNat] at ho; rw [← Ny199.out] at ho)); have n0_ := Aside0.mk (Kd.R_after (ok := (fun _ => True)) (by (with_reducible repeat (first | apply Kd.R_alloc | apply Kd.R_drewN | apply Kd.R_drew)); exact HO_4.out) hg hat); have n1_ := Aside0.mk (blk_grown (g := gb195) (o := .cells #[.int .u8 ((rd_T73 l0 x23_2).f0), .slice A194_1 ((rd_T73 l0 x23_2).f1).length c194_1] 73 (0, 0)) (by (with_reducible repeat (first | refine blk_drewN ?_ _ | refine blk_drew ?_ | refine blk_alloc ?_ _)); exact BK195.out) hg (Kd.R_ne HO198.out BK195.out (by decide))); have n2_ := Aside0.mk (hb); have n3_ := Aside0.mk (ho); clear HO_4; clear BK195; clear HB; clear HO198; have HO_4 := n0_; have BK195 := n1_; have HB := n2_; have HO201 := n3_; clear n0_ n1_ n2_ n3_; clear ho hb hg hat; obtain ⟨Ao23, co23, eo23⟩ := Kd.R_slice HO201.out; subst eo23) | ((with_reducible refine gate_callee (f := 40) rfl ?_); refine goesL_ (some 34) rfl rfl Try.func40 (by kernel_rfl) rfl #[.slice Ao23 y199.length co23] rfl (by (try simp only [List.map_toArray, List.map_cons, List.map_nil]); first | done | rfl | (simp only [List.length_drop, List.length_take]; rfl)) ?_; (with_reducible refine (seal_Short.calls k2 _ _ y199 t202 _ ?side1 ?side2 A14.out).mono ?_); (case side1 => repeat (first | exact (Kd.R_reads' HO201.out).2.2 | (with_reducible refine Kd.C_alloc ?_ _) | (with_reducible refine Kd.C_drewN ?_ _) | (with_reducible refine Kd.C_drew ?_))); (case side2 => exact (Kd.R_reads' HO201.out).2.1); rintro e w' ⟨rfl, ⟨nd, rfl⟩⟩; refine ⟨_, rfl, ?_⟩) | ((with_reducible refine gate_builtin (b := .append) (xs := #[.tmp 35, .tmp 36]) rfl ?_); (try (refine gate_guard (by rfl) ?_; dsimp only)); at_builtin; refine Kd.R_append_rows (Kd.int .u8) (w0 := w) w.heap.size rfl (.tmp 35) (.tmp 36) 22 5 (.int .u8 0) 1 rfl Try.underlying22 info5 rfl (by decide) (by omega) u4 x4_2 y199 _ _ _ (fun k_ => some k_ ≠ (.slice Ao23 y199.length co23 : Value).ownBlock) (fun _ => False) rfl rfl ?aO ?aR (fun _ _ h => h) (fun _ h => h.elim) ?aF ?aB ?aS ?aL ?_; (case aR => repeat (first | exact (Kd.R_reads' HO201.out).2.2 | (with_reducible refine Kd.C_alloc ?_ _) | (with_reducible refine Kd.C_drewN ?_ _) | (with_reducible refine Kd.C_drew ?_))); (case aB => exact (by repeat (first | (with_reducible first | exact HB.out | apply below_alloc | apply pw_below_drewN | apply below_drew1 | refine below_set ?_ GE195.out) | exact HB.out))); (case aF => exact (fun k_ hk => Kd.fresh' (Kd.R_lt (by (with_reducible repeat (first | apply Kd.R_alloc | apply Kd.R_drewN | apply Kd.R_drew)); exact HO201.out)) k_ hk)); (case aO => exact (by (with_reducible repeat (first | apply Kd.R_alloc | apply Kd.R_drewN | apply Kd.R_drew)); exact Kd.R_mono HO_4.out (fun _ hk => hk.2))); (case aS => exact (below_size (by repeat (first | (with_reducible first | exact HB.out | apply below_alloc | apply pw_below_drewN | apply below_drew1 | refine below_set ?_ GE195.out) | exact HB.out)))); (case aL => have := LMc15.out; omega); intro v204 w24 ho hb hg hat; (first | rw [← Ny203.out] at ho | (simp only [Int.reduceToNat] at ho; rw [← Ny203.out] at ho)); have n0_ := Aside0.mk (blk_grown (g := gb195) (o := .cells #[.int .u8 ((rd_T73 l0 x23_2).f0), .slice A194_1 ((rd_T73 l0 x23_2).f1).length c194_1] 73 (0, 0)) (by (with_reducible repeat (first | refine blk_drewN ?_ _ | refine blk_drew ?_ | refine blk_alloc ?_ _)); exact BK195.out) hg (Kd.R_ne HO_4.out BK195.out (by decide))); have n1_ := Aside0.mk (Kd.R_after (ok := (fun _ => True)) (by (with_reducible repeat (first | apply Kd.R_alloc | apply Kd.R_drewN | apply Kd.R_drew)); exact Kd.R_mono HO201.out (fun _ hk => ⟨trivial, hk⟩)) hg hat); have n2_ := Aside0.mk (hb); have n3_ := Aside0.mk (ho); clear BK195; clear HO201; clear HB; clear HO_4; have BK195 := n0_; have HO201 := n1_; have HB := n2_; have HO205 := n3_; clear n0_ n1_ n2_ n3_; clear ho hb hg hat) | ((with_reducible refine gate_dst (N := 43) rfl ?_); (try (refine gate_guard (by rfl) ?_; dsimp only)); refine Kd.R_lit (Kd.int .u8) _ 5 ?hg (N := 43) ?hd (xs := ([(t202) % 256, (t202 / 256) % 256] : List Int)) (inner := [.int .u8 ((t202) % 256), .int .u8 ((t202 / 256) % 256)]) (ok := fun _ => True) (okp := fun _ => True) ?hr ?hp (fun _ hk => hk) trivial (Below.refl _ _) (Nat.le_refl _) (by simp) ?_; (case hd => rfl); (case hg => rfl); (case hr => first | (go_simp; done) | (go_simp; rfl)); (case hp => exact (Reps.one (show Kd.M (Kd.int .u8) _ _ _ ((t202) % 256) [.int .u8 ((t202) % 256)] from rfl) (Reps.one (show Kd.M (Kd.int .u8) _ _ _ ((t202 / 256) % 256) [.int .u8 ((t202 / 256) % 256)] from rfl) (Reps.none _ _)))); intro v207 w25 ho26 hb hg_ hnew_; clear hg_ hnew_; (first | rw [← Ny206.out] at ho26 | (simp only [Int.reduceToNat] at ho26; rw [← Ny206.out] at ho26)); have n0_ := Aside0.mk (Kd.R_elder' (by (with_reducible repeat (first | apply Kd.R_alloc | apply Kd.R_drewN | apply Kd.R_drew)); exact HO201.out) (Kd.R_base ho26) hb); have n1_ := Aside0.mk (Kd.R_elder' (by (with_reducible repeat (first | apply Kd.R_alloc | apply Kd.R_drewN | apply Kd.R_drew)); exact HO205.out) (Kd.R_base ho26) hb); have n2_ := Aside0.mk (Kd.R_lower (Kd.R_new' (Kd.R_new' ho26 (Kd.R_lt (by (with_reducible repeat (first | apply Kd.R_alloc | apply Kd.R_drewN | apply Kd.R_drew)); exact HO201.out))) (Kd.R_lt (by (with_reducible repeat (first | apply Kd.R_alloc | apply Kd.R_drewN | apply Kd.R_drew)); exact HO205.out))) (below_size (by repeat (first | (with_reducible first | exact HB.out | apply below_alloc | apply pw_below_drewN | apply below_drew1 | refine below_set ?_ GE195.out) | exact HB.out)))); have n3_ := Aside0.mk (blk_below (g := gb195) (o := .cells #[.int .u8 ((rd_T73 l0 x23_2).f0), .slice A194_1 ((rd_T73 l0 x23_2).f1).length c194_1] 73 (0, 0)) (by (with_reducible repeat (first | refine blk_drewN ?_ _ | refine blk_drew ?_ | refine blk_alloc ?_ _)); exact BK195.out) hb); have n4_ := Aside0.mk (below_step (by repeat (first | (with_reducible first | exact HB.out | apply below_alloc | apply pw_below_drewN | apply below_drew1 | refine below_set ?_ GE195.out) | exact HB.out)) hb); clear HO201; clear HO205; clear BK195; clear HB; have HO201 := n0_; have HO205 := n1_; have HO208 := n2_; have BK195 := n3_; have HB := n4_; clear n0_ n1_ n2_ n3_ n4_; clear hb ho26; obtain ⟨Ao28, co28, eo28⟩ := Kd.R_slice HO208.out; subst eo28) | ((with_reducible refine gate_builtin (b := .append) (xs := #[.tmp 37, .tmp 43]) rfl ?_); (try (refine gate_guard (by rfl) ?_; dsimp only)); at_builtin; refine Kd.R_append_rows (Kd.int .u8) (w0 := w) w.heap.size rfl (.tmp 37) (.tmp 43) 22 5 (.int .u8 0) 1 rfl Try.underlying22 info5 rfl (by decide) (by omega) v204 y203 y206 _ _ _ (fun k_ => some k_ ≠ (.slice Ao23 y199.length co23 : Value).ownBlock ∧ some k_ ≠ (.slice Ao28 y206.length co28 : Value).ownBlock) (fun _ => False) rfl rfl ?aO ?aR (fun _ _ h => h) (fun _ h => h.elim) ?aF ?aB ?aS ?aL ?_; (case aR => repeat (first | exact (Kd.R_reads' HO208.out).2.2 | (with_reducible refine Kd.C_alloc ?_ _) | (with_reducible refine Kd.C_drewN ?_ _) | (with_reducible refine Kd.C_drew ?_))); (case aB => exact (by repeat (first | (with_reducible first | exact HB.out | apply below_alloc | apply pw_below_drewN | apply below_drew1 | refine below_set ?_ GE195.out) | exact HB.out))); (case aF => exact (fun k_ hk => ⟨Kd.fresh' (Kd.R_lt (by (with_reducible repeat (first | apply Kd.R_alloc | apply Kd.R_drewN | apply Kd.R_drew)); exact HO201.out)) k_ hk, Kd.fresh' (Kd.R_lt (by (with_reducible repeat (first | apply Kd.R_alloc | apply Kd.R_drewN | apply Kd.R_drew)); exact HO208.out)) k_ hk⟩)); (case aO => exact (by (with_reducible repeat (first | apply Kd.R_alloc | apply Kd.R_drewN | apply Kd.R_drew)); exact HO205.out)); (case aS => exact (below_size (by repeat (first | (with_reducible first | exact HB.out | apply below_alloc | apply pw_below_drewN | apply below_drew1 | refine below_set ?_ GE195.out) | exact HB.out)))); (case aL => have := LMc16.out; omega); intro v210 w27 ho hb hg hat; (first | rw [← Ny209.out] at ho | (simp only [Int.reduceToNat] at ho; rw [← Ny209.out] at ho)); have n0_ := Aside0.mk (blk_grown (g := gb195) (o := .cells #[.int .u8 ((rd_T73 l0 x23_2).f0), .slice A194_1 ((rd_T73 l0 x23_2).f1).length c194_1] 73 (0, 0)) (by (with_reducible repeat (first | refine blk_drewN ?_ _ | refine blk_drew ?_ | refine blk_alloc ?_ _)); exact BK195.out) hg (Kd.R_ne HO205.out BK195.out (by decide))); have n1_ := Aside0.mk (Kd.R_after (ok := (fun k_ => some k_ ≠ (.slice Ao28 y206.length co28 : Value).ownBlock)) (by (with_reducible repeat (first | apply Kd.R_alloc | apply Kd.R_drewN | apply Kd.R_drew)); exact Kd.R_mono HO201.out (fun _ hk => ⟨hk.2, hk.1.2⟩)) hg hat); have n2_ := Aside0.mk (Kd.R_after (ok := (fun k_ => some k_ ≠ (.slice Ao23 y199.length co23 : Value).ownBlock)) (by (with_reducible repeat (first | apply Kd.R_alloc | apply Kd.R_drewN | apply Kd.R_drew)); exact Kd.R_mono HO208.out (fun _ hk => ⟨hk.1.2, hk.2⟩)) hg hat); have n3_ := Aside0.mk (hb); have n4_ := Aside0.mk (ho); clear BK195; clear HO201; clear HO208; clear HB; clear HO205; have BK195 := n0_; have HO201 := n1_; have HO208 := n2_; have HB := n3_; have HO211 := n4_; clear n0_ n1_ n2_ n3_ n4_; clear ho hb hg hat))
            go_roundg k2
            case measure => have := HJ1.out; have := HK2.out; omega
            case rel => exact ⟨(y209), (wrap64 (x23_2 + 1)), (by first | rfl | (simp; done) | (simp [*]; done)), H', ⟨by have := HJ1.out; have := HK2.out; omega⟩, ⟨by (with_reducible repeat (first | apply Kd.R_alloc | apply Kd.R_drewN | apply Kd.R_drew)); exact Kd.R_mono HO211.out (fun _ hk => trivial)⟩, ⟨by repeat (first | (with_reducible first | exact HB.out | apply below_alloc | apply pw_below_drewN | apply below_drew1 | refine below_set ?_ GE195.out) | exact HB.out)⟩⟩
           ·rw [if_neg c16] at H
            exact absurd H (by simp)
          ·rw [if_neg c15] at H
           exact absurd H (by simp)
         ·rw [if_neg c13] at H
          exact absurd H (by simp)
        ·rw [if_neg c12] at H
         exact absurd H (by simp)
       ·rw [if_neg c11] at H
        exact absurd H (by simp)
      ·rw [if_neg c10] at H
       have c10b0 : decide (x23_2 < (l0.length : Int)) = false := decide_eq_false c10
       clear c10
       obtain ⟨ji29, hji29⟩ : ∃ j_ : Int, (wrap64 (65536 - (x4_2.length : Int))) = j_ := ⟨_, rfl⟩
       replace H : (if 0 ≤ (ji29) then (if x4_2.length + (ji29 : Int).toNat < 140737488355328 then (some ((x4_2 ++ List.replicate (ji29 : Int).toNat 0), true)) else (none)) else (none)) = some (r1, r2) := by first | (rw [hji29] at H; exact H) | (simp only [hji29] at H ⊢; exact H)
       have hji29w : (IntKind.i64.wrap (65536 - (x4_2.length : Int))) = ji29 := (i64_w _).trans hji29
       by_cases c30 : 0 ≤ (ji29)
       ·rw [if_pos c30] at H
        have c30b0 := eq_true c30
        have c30b1 : decide (0 ≤ (ji29)) = true := decide_eq_true c30
        clear c30
        by_cases c31 : x4_2.length + (ji29 : Int).toNat < 140737488355328
        ·rw [if_pos c31] at H
         have LMc31 := Aside0.mk c31
         clear c31
         obtain ⟨y212, hy212⟩ : ∃ y_ : List Int, y_ = (x4_2 ++ List.replicate (ji29 : Int).toNat 0) := ⟨_, rfl⟩
         replace H : (some (y212, true)) = some (r1, r2) := by first | (rw [hy212]; with_reducible exact H) | (have H2_ := (Option.bind_some _ _).symm.trans H; rw [hy212]; with_reducible exact H2_) | (have H2_ := (Option.bind_some _ _).symm.trans H; with_reducible exact H2_) | with_reducible exact H | (rw [hy212]; exact H) | exact H
         have Ny212 := Aside0.mk hy212
         clear hy212
         simp only [Option.some.injEq, Prod.mk.injEq] at H
         obtain ⟨rfl, rfl⟩ := H
         obtain ⟨Ao32, co32, eo32⟩ := Kd.R_slice HO_4.out
         subst eo32
         go_wp2_with (first | (at_builtin; refine Kd.R_append_zeros (Kd.int .u8) (w0 := w) w.heap.size rfl (.tmp 46) (.tmp 49) 22 3 5 (.int .u8 0) 1 rfl Try.underlying22 Try.underlying3 info5 rfl (by decide) (by omega) (.slice Ao32 x4_2.length co32) x4_2 0 (ji29 : Int) (fun _ => True) rfl rfl rfl ?aF ?aO (of_decide_eq_true (by first | (with_reducible assumption) | assumption)) ?aB ?aS ?aL ?_; (case aB => exact (by repeat (first | (with_reducible first | exact HB.out | apply below_alloc | apply pw_below_drewN | apply below_drew1) | exact HB.out))); (case aF => exact (fun _ _ => trivial)); (case aO => exact (by (with_reducible repeat (first | apply Kd.R_alloc | apply Kd.R_drewN | apply Kd.R_drew)); exact HO_4.out)); (case aS => exact (below_size (by repeat (first | (with_reducible first | exact HB.out | apply below_alloc | apply pw_below_drewN | apply below_drew1) | exact HB.out)))); (case aL => have := LMc31.out; omega); intro v213 w33 ho hb hg hat; (first | rw [← Ny212.out] at ho | (simp only [Int.reduceToNat] at ho; rw [← Ny212.out] at ho)); have n0_ := Aside0.mk (hb); have n1_ := Aside0.mk (ho); clear HB; clear HO_4; have HB := n0_; have HO214 := n1_; clear n0_ n1_; clear ho hb hg hat))
         go_ret2
         exact ⟨_, by first | rfl | (simp [errW_none, errW_some] <;> rfl) | (simp only [← hji29]; first | rfl | (simp [errW_none, errW_some] <;> rfl)) | (simp [*, errW_none, errW_some] <;> rfl), by (with_reducible repeat (first | apply Kd.R_alloc | apply Kd.R_drewN | apply Kd.R_drew)); exact HO214.out, by repeat (first | (with_reducible first | exact HB.out | apply below_alloc | apply pw_below_drewN | apply below_drew1) | exact HB.out)⟩
        ·rw [if_neg c31] at H
         exact absurd H (by simp)
       ·rw [if_neg c30] at H
        exact absurd H (by simp)

/-! ### block_Side: function 29 -/
mutual
def block_Side.j0 : Nat → List (S73) → Int → Bool → Option (List Int × Bool)
 | 0, _, _, _ => none
 | k + 1, x0, x1, x17 => if x17 = true then (some (([] : List Int), false)) else (if 0 ≤ x1 then (if (x1 : Int).toNat ≤ 281474976710656 then (block_Side.l0 k x1 (List.replicate 0 0) x0 (x0.length : Int) 0) else (none)) else (none))
def block_Side.l0 : Nat → Int → List Int → List (S73) → Int → Int → Option (List Int × Bool)
 | 0, _, _, _, _, _ => none
 | k + 1, x1, x6, x20, x21, x22 => if x22 < x21 then (if 0 ≤ x22 then (if x22 < (x20.length : Int) then (if x6.length < 140737488355328 then ((some (x6 ++ [(rd_T73 x20 x22).f0] : List Int)).bind fun y222 => (if y222.length + ((rd_T73 x20 x22).f1).length < 140737488355328 then (block_Side.l0 k x1 (y222 ++ ((rd_T73 x20 x22).f1)) x20 x21 (wrap64 (x22 + 1))) else (none))) else (none)) else (none)) else (none)) else (if 0 ≤ (wrap64 (x1 - (x6.length : Int))) then (if x6.length + (wrap64 (x1 - (x6.length : Int)) : Int).toNat < 140737488355328 then (some ((x6 ++ List.replicate (wrap64 (x1 - (x6.length : Int)) : Int).toNat 0), true)) else (none)) else (none))
end
def block_Side.f (k : Nat) (l0 : List (S73)) (a1 : Int) : Option (List Int × Bool) := (block_Right.f k l0).bind fun t215 => (if t215 = true then ((block_Size.f k l0).bind fun t216 => (block_Side.j0 k l0 a1 (decide (t216 > a1)))) else (block_Side.j0 k l0 a1 true))
def block_Side.T7 : Bool × List (List Nat × List Nat) := (true, [([], []), ([], []), ([1], [1]), ([2], [2]), ([0, 3], [0, 3]), ([], []), ([5], [5]), ([4, 6, 4], [4, 6]), ([7, 7, 0, 1, 2, 3, 4, 5, 6, 7], [0, 7])])
def block_Side.B7 : List Nat := [0, 0, 2, 6, 15, 0, 32, 127, 255]
theorem block_Side.tab7 : rtab .any (opsOf Try.f29 7) = block_Side.T7 := by kernel_rfl
theorem block_Side.bits7 : waitsOk block_Side.T7.2 block_Side.B7 = true := by kernel_rfl
set_option maxHeartbeats 8000000 in
set_option maxRecDepth 100000 in
theorem block_Side.callsR (k : Nat) (A0 : Option Addr) (c0 : Nat) (l0 : List (S73)) (a1 : Int) (r1 : List Int) (r2 : Bool) (w : World) (hr0 : Kd.C k73 w A0 l0.length l0) (hc0 : l0.length ≤ c0) (h : block_Side.f k l0 a1 = some (r1, r2)) :
  Calls Try.prog 29 #[.slice A0 l0.length c0, .int .i64 a1] w fun e w' => ∃ v0_ : Value, e = .returned (.tuple #[v0_, .bool r2]) ∧ Kd.R (Kd.int .u8) 5 w' w.heap.size (fun _ => True) v0_ r1 ∧ Below w.heap.size w w' := by
 have hu73 := Try.underlying73
 have HR0 := Aside0.mk hr0
 have HC0 := Aside0.mk hc0
 clear hr0 hc0
 have HB := Aside0.mk (Below.refl w.heap.size w)
 have H : ((block_Right.f k l0).bind fun t215 => (if t215 = true then ((block_Size.f k l0).bind fun t216 => (block_Side.j0 k l0 a1 (decide (t216 > a1)))) else (block_Side.j0 k l0 a1 true))) = some (r1, r2) := h
 clear h
 have HC3 := Aside0.mk H
 clear H
 go_enter Try.func29, Try.ntmps29
 go_upto_region 1 with (fail)
 go_cut [17] (fun v17 wc => ∃ (kq : Nat) (x17_2 : Bool), v17 = .bool x17_2 ∧ Aside0 (block_Side.j0 kq l0 a1 x17_2 = some (r1, r2)) ∧ Aside0 (kq ≤ k) ∧ Aside0 (Below w.heap.size w wc))
 case first =>
  have H := HC3.out
  clear HC3
  replace H := Option.bind_eq_some_iff.mp H
  obtain ⟨t215, A40, H⟩ := H
  replace H : (if t215 = true then ((block_Size.f k l0).bind fun t216 => (block_Side.j0 k l0 a1 (decide (t216 > a1)))) else (block_Side.j0 k l0 a1 true)) = some (r1, r2) := H
  have A4 := Aside0.mk A40
  clear A40
  by_cases c5 : t215 = true
  ·subst c5
   have H1 : ((block_Size.f k l0).bind fun t216 => (block_Side.j0 k l0 a1 (decide (t216 > a1)))) = some (r1, r2) := by rw [if_pos rfl] at H; exact H
   clear H
   have H := H1
   clear H1
   replace H := Option.bind_eq_some_iff.mp H
   obtain ⟨t216, A60, H⟩ := H
   replace H : (block_Side.j0 k l0 a1 (decide (t216 > a1))) = some (r1, r2) := H
   have A6 := Aside0.mk A60
   clear A60
   have H' := Aside0.mk H
   clear H
   go_wp2_with (first | ((with_reducible refine gate_callee (f := 45) rfl ?_); refine goesL_ (some 10) rfl rfl Try.func45 (by kernel_rfl) rfl #[.slice A0 l0.length c0] rfl (by (try simp only [List.map_toArray, List.map_cons, List.map_nil]); first | done | rfl | (simp only [List.length_drop, List.length_take]; rfl)) ?_; (with_reducible refine (block_Right.calls k (fun k_ => k_ < w.heap.size) _ _ l0 true _ ?side1 A4.out).mono ?_); (case side1 => exact Kd.V_mk HC0.out (Kd.F_below (Kd.C_F k73_heap HR0.out) (by repeat (first | (with_reducible first | exact HB.out | apply below_alloc | apply pw_below_drewN | apply below_drew1) | exact HB.out)))); rintro e w7 ⟨rfl, hb⟩; refine ⟨_, rfl, ?_⟩; have n0_ := Aside0.mk (below_step (by repeat (first | (with_reducible first | exact HB.out | apply below_alloc | apply pw_below_drewN | apply below_drew1) | exact HB.out)) hb); clear HB; have HB := n0_; clear n0_; (try clear hb); (try clear hb2); (try clear hk); (try clear hi)) | (go_at_call 46; (with_reducible refine (block_Size.calls k _ _ l0 t216 _ ?side1 ?side2 A6.out).mono ?_); (case side1 => repeat (first | exact (Kd.C_below HR0.out HB.out) | (with_reducible refine Kd.C_alloc ?_ _) | (with_reducible refine Kd.C_drewN ?_ _) | (with_reducible refine Kd.C_drew ?_))); (case side2 => exact HC0.out); rintro e w8 ⟨rfl, hb⟩; have n0_ := Aside0.mk (below_step (by repeat (first | (with_reducible first | exact HB.out | apply below_alloc | apply pw_below_drewN | apply below_drew1) | exact HB.out)) hb); clear HB; have HB := n0_; clear n0_; (try clear hb); (try clear hb2); (try clear hk); (try clear hi)))
   go_meet
   case rel => exact ⟨_, (decide (t216 > a1)), (by first | rfl | (simp; done) | (simp [*]; done)), H', ⟨by first | omega | exact Nat.le_refl _⟩, ⟨by repeat (first | (with_reducible first | exact HB.out | apply below_alloc | apply pw_below_drewN | apply below_drew1) | exact HB.out)⟩⟩
  ·replace c5 := Bool.eq_false_iff.mpr c5
   subst c5
   have H1 : (block_Side.j0 k l0 a1 true) = some (r1, r2) := by rw [if_neg (show ¬ (false = true) by decide)] at H; exact H
   clear H
   have H := H1
   clear H1
   have H' := Aside0.mk H
   clear H
   go_wp2_with (first | ((with_reducible refine gate_callee (f := 45) rfl ?_); refine goesL_ (some 10) rfl rfl Try.func45 (by kernel_rfl) rfl #[.slice A0 l0.length c0] rfl (by (try simp only [List.map_toArray, List.map_cons, List.map_nil]); first | done | rfl | (simp only [List.length_drop, List.length_take]; rfl)) ?_; (with_reducible refine (block_Right.calls k (fun k_ => k_ < w.heap.size) _ _ l0 false _ ?side1 A4.out).mono ?_); (case side1 => exact Kd.V_mk HC0.out (Kd.F_below (Kd.C_F k73_heap HR0.out) (by repeat (first | (with_reducible first | exact HB.out | apply below_alloc | apply pw_below_drewN | apply below_drew1) | exact HB.out)))); rintro e w9 ⟨rfl, hb⟩; refine ⟨_, rfl, ?_⟩; have n0_ := Aside0.mk (below_step (by repeat (first | (with_reducible first | exact HB.out | apply below_alloc | apply pw_below_drewN | apply below_drew1) | exact HB.out)) hb); clear HB; have HB := n0_; clear n0_; (try clear hb); (try clear hb2); (try clear hk); (try clear hi)))
   go_meet
   case rel => exact ⟨_, (true), (by first | rfl | (simp; done) | (simp [*]; done)), H', ⟨by first | omega | exact Nat.le_refl _⟩, ⟨by repeat (first | (with_reducible first | exact HB.out | apply below_alloc | apply pw_below_drewN | apply below_drew1) | exact HB.out)⟩⟩
 case rest =>
  clear HC3
  try clear c2
  try clear p2
  try clear c4
  try clear c5
  obtain ⟨kq, x17_2, rfl, HA, HJ2, HB⟩ := hcut
  cases kq with
  | zero => exact absurd HA.out (by simp [block_Side.j0])
  | succ kj2 =>
   have H := HA.out
   clear HA
   simp only [block_Side.j0] at H
   by_cases c10 : x17_2 = true
   ·subst c10
    have H1 : (some (([] : List Int), false)) = some (r1, r2) := by rw [if_pos rfl] at H; exact H
    clear H
    have H := H1
    clear H1
    simp only [Option.some.injEq, Prod.mk.injEq] at H
    obtain ⟨rfl, rfl⟩ := H
    go_wp2
    go_ret2
    exact ⟨_, by first | rfl | (simp [errW_none, errW_some] <;> rfl) | (simp [*, errW_none, errW_some] <;> rfl), by first | exact Kd.R_nil _ _ _ _ _ | exact Kd.N_nil _ _ _ _ _ | exact Kd.V_nil _ _ _ _ _ | exact Kd.Q_nil _ _ _ _ _ | exact Kd.S_nil _ _ _ _ _, by repeat (first | (with_reducible first | exact HB.out | apply below_alloc | apply pw_below_drewN | apply below_drew1) | exact HB.out)⟩
   ·replace c10 := Bool.eq_false_iff.mpr c10
    subst c10
    have H1 : (if 0 ≤ a1 then (if (a1 : Int).toNat ≤ 281474976710656 then (block_Side.l0 kj2 a1 (List.replicate 0 0) l0 (l0.length : Int) 0) else (none)) else (none)) = some (r1, r2) := by rw [if_neg (show ¬ (false = true) by decide)] at H; exact H
    clear H
    have H := H1
    clear H1
    by_cases c11 : 0 ≤ a1
    ·rw [if_pos c11] at H
     have c11b0 : decide (0 ≤ a1) = true := decide_eq_true c11
     clear c11
     by_cases c12 : (a1 : Int).toNat ≤ 281474976710656
     ·rw [if_pos c12] at H
      have c12b0 := eq_true c12
      have c12b1 : decide ((a1 : Int).toNat ≤ 281474976710656) = true := decide_eq_true c12
      clear c12
      obtain ⟨y217, hy217⟩ : ∃ y_ : List Int, y_ = (List.replicate 0 0) := ⟨_, rfl⟩
      replace H : (block_Side.l0 kj2 a1 y217 l0 (l0.length : Int) 0) = some (r1, r2) := by first | (rw [hy217]; with_reducible exact H) | (have H2_ := (Option.bind_some _ _).symm.trans H; rw [hy217]; with_reducible exact H2_) | (have H2_ := (Option.bind_some _ _).symm.trans H; with_reducible exact H2_) | with_reducible exact H | (rw [hy217]; exact H) | exact H
      have Ny217 := Aside0.mk hy217
      clear hy217
      have H' := Aside0.mk H
      clear H
      go_wp2_with (first | ((with_reducible refine gate_dst (N := 19) rfl ?_); refine Go.Proofs.Ythnfmoaiejaheaa.H.R_makecap _ 5 rfl (N := 19) rfl 22 _ _ rfl .i64 .i64 0 a1 rfl rfl Try.underlying22 info5 (ok := fun _ => True) (okp := fun _ => True) (fun _ hk => hk) trivial (by omega) (of_decide_eq_true (by first | (with_reducible assumption) | assumption)) (Nat.le_trans (Nat.mul_le_mul_right _ (of_decide_eq_true (by first | (with_reducible assumption) | assumption) : (a1 : Int).toNat ≤ 281474976710656)) (by omega)) (Below.refl _ _) (Nat.le_refl _) ?_; intro v218 w13 ho14 hb hg_ hnew_; clear hg_ hnew_; (first | rw [← Ny217.out] at ho14 | (simp only [Int.reduceToNat] at ho14; rw [← Ny217.out] at ho14)); have n0_ := Aside0.mk (Kd.R_lower ho14 (below_size (by repeat (first | (with_reducible first | exact HB.out | apply below_alloc | apply pw_below_drewN | apply below_drew1) | exact HB.out)))); have n1_ := Aside0.mk (below_step (by repeat (first | (with_reducible first | exact HB.out | apply below_alloc | apply pw_below_drewN | apply below_drew1) | exact HB.out)) hb); clear HB; have HO219 := n0_; have HB := n1_; clear n0_ n1_; clear hb ho14))
      go_loopg [6, 22] kj2 (fun kq v6 v22 w' => ∃ (x6_2 : List Int) (x22_2 : Int), v22 = .int .i64 x22_2 ∧ Aside0 (block_Side.l0 kq a1 x6_2 l0 (l0.length : Int) x22_2 = some (r1, r2)) ∧ Aside0 (kq ≤ kj2) ∧ Aside0 (Kd.R (Kd.int .u8) 5 w' w.heap.size (fun _ => True) v6 x6_2) ∧ Aside0 (Below w.heap.size w w'))
      case atStart => exact ⟨(y217), (0), (by first | rfl | (simp; done) | (simp [*]; done)), H', ⟨Nat.le_refl _⟩, ⟨by (with_reducible repeat (first | apply Kd.R_alloc | apply Kd.R_drewN | apply Kd.R_drew)); exact HO219.out⟩, ⟨by repeat (first | (with_reducible first | exact HB.out | apply below_alloc | apply pw_below_drewN | apply below_drew1) | exact HB.out)⟩⟩
      case round =>
       clear H'
       try clear c1
       try clear c2
       try clear p2
       try clear c4
       try clear c5
       try clear c10
       try clear c11
       try clear c11b0
       try clear c12
       try clear c12b0
       try clear c12b1
       try clear p2
       obtain ⟨x6_2, x22_2, rfl, HA, HK2, HO_6, HB⟩ := hrel
       cases gk with
       | zero => exact absurd HA.out (by simp [block_Side.l0])
       | succ k2 =>
        have H := HA.out
        clear HA
        simp only [block_Side.l0] at H
        by_cases c15 : x22_2 < (l0.length : Int)
        ·rw [if_pos c15] at H
         have c15b0 : decide (x22_2 < (l0.length : Int)) = true := decide_eq_true c15
         clear c15
         by_cases c16 : 0 ≤ x22_2
         ·rw [if_pos c16] at H
          have c16b0 : decide (0 ≤ x22_2) = true := decide_eq_true c16
          clear c16
          by_cases c17 : x22_2 < (l0.length : Int)
          ·rw [if_pos c17] at H
           have c17b0 : decide (x22_2 < (l0.length : Int)) = true := decide_eq_true c17
           clear c17
           by_cases c18 : x6_2.length < 140737488355328
           ·rw [if_pos c18] at H
            have LMc18 := Aside0.mk c18
            clear c18
            obtain ⟨y222, hy222⟩ : ∃ y_ : List Int, y_ = (x6_2 ++ [(rd_T73 l0 x22_2).f0]) := ⟨_, rfl⟩
            replace H : (if y222.length + ((rd_T73 l0 x22_2).f1).length < 140737488355328 then (block_Side.l0 k2 a1 (y222 ++ ((rd_T73 l0 x22_2).f1)) l0 (l0.length : Int) (wrap64 (x22_2 + 1))) else (none)) = some (r1, r2) := by first | (rw [hy222]; with_reducible exact H) | (have H2_ := (Option.bind_some _ _).symm.trans H; rw [hy222]; with_reducible exact H2_) | (have H2_ := (Option.bind_some _ _).symm.trans H; with_reducible exact H2_) | with_reducible exact H | (rw [hy222]; exact H) | exact H
            have Ny222 := Aside0.mk hy222
            clear hy222
            by_cases c19 : y222.length + ((rd_T73 l0 x22_2).f1).length < 140737488355328
            ·rw [if_pos c19] at H
             have LMc19 := Aside0.mk c19
             clear c19
             obtain ⟨y225, hy225⟩ : ∃ y_ : List Int, y_ = (y222 ++ ((rd_T73 l0 x22_2).f1)) := ⟨_, rfl⟩
             replace H : (block_Side.l0 k2 a1 y225 l0 (l0.length : Int) (wrap64 (x22_2 + 1))) = some (r1, r2) := by first | (rw [hy225]; with_reducible exact H) | (have H2_ := (Option.bind_some _ _).symm.trans H; rw [hy225]; with_reducible exact H2_) | (have H2_ := (Option.bind_some _ _).symm.trans H; with_reducible exact H2_) | with_reducible exact H | (rw [hy225]; exact H) | exact H
             have Ny225 := Aside0.mk hy225
             clear hy225
             have H' := Aside0.mk H
             clear H
             have p220 : 0 ≤ (x22_2 : Int) := of_decide_eq_true (by first | (with_reducible assumption) | assumption)
             have q220 : x22_2 < (l0.length : Int) := of_decide_eq_true (by first | (with_reducible assumption) | assumption)
             obtain ⟨ad220, A220_1, c220_1, e220, hx220_0, hx220_1, hl220_1, hi220_1⟩ := at_T73 HR0.out x22_2 p220 q220
             cases e220
             replace hx220_0 := (HB.out.cell (World.block_lt_of_cell? w _ hx220_0)).trans hx220_0
             replace hx220_1 := (HB.out.cell (World.block_lt_of_cell? w _ hx220_1)).trans hx220_1
             have HR220_1 := Aside0.mk hi220_1
             have HC220_1 := Aside0.mk hl220_1
             clear hi220_1 hl220_1
             replace p220 := eq_true p220
             replace q220 := eq_true q220
             try go_wp2_with (first | ((with_reducible refine gate_dst (N := 8) rfl ?_); refine box_event ?hg (N := 8) ?hd (cs := #[.int .u8 0, .slice none 0 0]) (t := 73) ?hr ?_; (case hd => rfl); (case hg => rfl); (case hr => first | (go_simp; done) | (go_simp; rfl)); intro gb221 hg w20 hbox hb; have n0_ := Aside0.mk (Kd.R_below (by (with_reducible repeat (first | apply Kd.R_alloc | apply Kd.R_drewN | apply Kd.R_drew)); exact HO_6.out) hb); have n1_ := Aside0.mk (below_step (by repeat (first | (with_reducible first | exact HB.out | apply below_alloc | apply pw_below_drewN | apply below_drew1) | exact HB.out)) hb); have n2_ := Aside0.mk (hbox); have n3_ := Aside0.mk ((by rw [hg]; exact (below_size (by repeat (first | (with_reducible first | exact HB.out | apply below_alloc | apply pw_below_drewN | apply below_drew1) | exact HB.out))) : w.heap.size ≤ gb221)); have n4_ := Aside0.mk ((by rw [hg]; exact (below_size (by repeat (first | (with_reducible first | exact HB.out | apply below_alloc | apply pw_below_drewN | apply below_drew1) | exact HB.out))) : w.heap.size ≤ gb221)); clear HO_6; clear HB; have HO_6 := n0_; have HB := n1_; have BK221 := n2_; have GW221 := n3_; have GE221 := n4_; clear n0_ n1_ n2_ n3_ n4_; clear hb hbox hg; have hcz21_0 : w20.cell? ⟨gb221, 0, none⟩ = some (.int .u8 0) := (blk_cell BK221.out 0).trans rfl; have hcz21_1 : w20.cell? ⟨gb221, 1, none⟩ = some (.slice none 0 0) := (blk_cell BK221.out 1).trans rfl; have hfz21_0 := blk_frozen BK221.out 0; have hfz21_1 := blk_frozen BK221.out 1))
             have n0_ : Aside0 (Kd.R (Kd.int .u8) 5 ((w20.setCell ⟨gb221, 0, none⟩ (.int .u8 ((rd_T73 l0 x22_2).f0))).setCell ⟨gb221, 1, none⟩ (.slice A220_1 ((rd_T73 l0 x22_2).f1).length c220_1)) w.heap.size (fun _ => True) u6 x6_2) := ⟨by (with_reducible repeat (first | apply Kd.R_alloc | apply Kd.R_drewN | apply Kd.R_drew)); exact Kd.R_mono (Kd.R_far (p := ⟨gb221, 1, none⟩) (Kd.R_far (p := ⟨gb221, 0, none⟩) (Kd.R_types HO_6.out BK221.out (by decide)) (fun _ hk => hk.2) (.int .u8 ((rd_T73 l0 x22_2).f0))) (fun _ hk => hk.2) (.slice A220_1 ((rd_T73 l0 x22_2).f1).length c220_1)) (fun _ hk => trivial)⟩
             have n1_ : Aside0 (((w20.setCell ⟨gb221, 0, none⟩ (.int .u8 ((rd_T73 l0 x22_2).f0))).setCell ⟨gb221, 1, none⟩ (.slice A220_1 ((rd_T73 l0 x22_2).f1).length c220_1)).heap[gb221]? = some (.cells #[.int .u8 ((rd_T73 l0 x22_2).f0), .slice A220_1 ((rd_T73 l0 x22_2).f1).length c220_1] 73 (0, 0))) := ⟨by (with_reducible repeat (first | refine blk_drewN ?_ _ | refine blk_drew ?_ | refine blk_alloc ?_ _)); refine blk_put (cs := #[.int .u8 ((rd_T73 l0 x22_2).f0), .slice none 0 0]) ?_ 1 _ rfl; (with_reducible repeat (first | refine blk_drewN ?_ _ | refine blk_drew ?_ | refine blk_alloc ?_ _)); refine blk_put (cs := #[.int .u8 0, .slice none 0 0]) ?_ 0 _ rfl; (with_reducible repeat (first | refine blk_drewN ?_ _ | refine blk_drew ?_ | refine blk_alloc ?_ _)); exact BK221.out⟩
             have n2_ : Aside0 (Below w.heap.size w ((w20.setCell ⟨gb221, 0, none⟩ (.int .u8 ((rd_T73 l0 x22_2).f0))).setCell ⟨gb221, 1, none⟩ (.slice A220_1 ((rd_T73 l0 x22_2).f1).length c220_1))) := ⟨by repeat (first | (with_reducible first | exact HB.out | apply below_alloc | apply pw_below_drewN | apply below_drew1 | refine below_set ?_ GE221.out) | exact HB.out)⟩
             (try clear HO_6)
             (try clear BK221)
             (try clear HB)
             generalize ((w20.setCell ⟨gb221, 0, none⟩ (.int .u8 ((rd_T73 l0 x22_2).f0))).setCell ⟨gb221, 1, none⟩ (.slice A220_1 ((rd_T73 l0 x22_2).f1).length c220_1)) = w22 at n0_ n1_ n2_ ⊢
             have HO_6 := n0_
             have BK221 := n1_
             have HB := n2_
             clear n0_ n1_ n2_
             have n0_ := Aside0.mk (Kd.R_drew HO_6.out)
             have n1_ := Aside0.mk (blk_drew BK221.out)
             have n2_ := Aside0.mk (below_drew1 HB.out)
             clear HO_6
             clear BK221
             clear HB
             have HO_6 := n0_
             have BK221 := n1_
             have HB := n2_
             clear n0_ n1_ n2_
             refine start_ (n := 9) (S := fun w' => w'.cell? ⟨gb221, 0, none⟩ = some (.int .u8 ((rd_T73 l0 x22_2).f0)) ∧ w'.cell? ⟨gb221, 1, none⟩ = some (.slice A220_1 ((rd_T73 l0 x22_2).f1).length c220_1)) (ds := []) #[false, false, false, false, false, false, false, false, false] (by kernel_rfl) rfl rfl ⟨(blk_cell BK221.out 0).trans rfl, (blk_cell BK221.out 1).trans rfl⟩ (fun hHeld => ?_); refine with_tabW block_Side.tab7 block_Side.bits7 (fun HT_ HW_ => ?_)
             generalize w22.drew = w23 at HO_6 BK221 HB hHeld ⊢
             refine pure_ (i := 0) (N := some 26) (v := ?_) (a' := ?_) #[true, false, false, false, false, false, false, false, false] rfl rfl (any_of HT_.out (by kernel_rfl)) (fun _ _ _ h => h) (Or.inl ⟨by rfl, ?_⟩) ?_ ?_
             rotate_left
             ·intro w'
              go_simp
              with_reducible rfl
             rotate_left
             ·simp only [Act.put, List.setIfInBounds_toArray, List.set_cons_zero, List.set_cons_succ, i64_w, i32_w]
              rfl
             refine pure_ (i := 1) (N := some 27) (v := ?_) (a' := ?_) #[true, true, false, false, false, false, false, false, false] rfl rfl (any_of HT_.out (by kernel_rfl)) (fun _ _ _ h => h) (Or.inl ⟨by rfl, ?_⟩) ?_ ?_
             rotate_left
             ·intro w'
              go_simp
              with_reducible rfl
             rotate_left
             ·simp only [Act.put, List.setIfInBounds_toArray, List.set_cons_zero, List.set_cons_succ, i64_w, i32_w]
              rfl
             refine pure_ (i := 5) (N := some 31) (v := ?_) (a' := ?_) #[true, true, false, false, false, true, false, false, false] rfl rfl (any_of HT_.out (by kernel_rfl)) (fun _ _ _ h => h) (Or.inl ⟨by rfl, ?_⟩) ?_ ?_
             rotate_left
             ·intro w'
              go_simp
              with_reducible rfl
             rotate_left
             ·simp only [Act.put, List.setIfInBounds_toArray, List.set_cons_zero, List.set_cons_succ, i64_w, i32_w]
              rfl
             refine take_ (i := 2) (N := some 28) (v := ?_) (a' := ?_) #[true, true, true, false, false, true, false, false, false] rfl rfl (take_ofW HT_.out HW_.out (by kernel_rfl)) (fun _ _ _ h => h) (Or.inl ⟨by rfl, ?_⟩) hHeld ?_ ?_
             rotate_left
             ·rintro w' ⟨s0, s1⟩
              go_simp
              with_reducible rfl
             rotate_left
             ·simp only [Act.put, List.setIfInBounds_toArray, List.set_cons_zero, List.set_cons_succ, i64_w, i32_w]
              rfl
             refine take_ (i := 6) (N := some 32) (v := ?_) (a' := ?_) #[true, true, true, false, false, true, true, false, false] rfl rfl (take_ofW HT_.out HW_.out (by kernel_rfl)) (fun _ _ _ h => h) (Or.inl ⟨by rfl, ?_⟩) hHeld ?_ ?_
             rotate_left
             ·rintro w' ⟨s0, s1⟩
              go_simp
              with_reducible rfl
             rotate_left
             ·simp only [Act.put, List.setIfInBounds_toArray, List.set_cons_zero, List.set_cons_succ, i64_w, i32_w]
              rfl
             refine one_ (i := 3) (N := some 29) #[true, true, true, true, false, true, true, false, false] rfl rfl (one_of HT_.out (by kernel_rfl)) (by decide) (fun K hK => ?_)
             refine value_ (w1 := ?_) (v := ?_) (by rfl) rfl ?_ ?_
             rotate_left 2
             ·go_simp
              constructor
              ·rfl
              ·rfl
             refine hK.out _ _ ⟨(blk_cell (blk_alloc BK221.out _) 0).trans rfl, (blk_cell (blk_alloc BK221.out _) 1).trans rfl⟩ (fun hHeld => ?_)
             clear hK K
             refine norm_ (a' := ?_) ?_ ?_
             rotate_left
             ·show Act.put _ (some 29) _ = _
              simp only [Act.put, List.setIfInBounds_toArray, List.set_cons_zero, List.set_cons_succ, i64_w, i32_w]
              rfl
             refine one_ (i := 4) (N := some 30) #[true, true, true, true, true, true, true, false, false] rfl rfl (one_of HT_.out (by kernel_rfl)) (by decide) (fun K hK => ?_)
             refine Kd.R_append_step (Kd.int .u8) (w0 := w) w.heap.size (by rfl) (.tmp 26) (.tmp 29) 22 5 (.int .u8 0) 1 rfl Try.underlying22 info5 rfl (by decide) (by omega) u6 x6_2 ((rd_T73 l0 x22_2).f0) [.int .u8 ((rd_T73 l0 x22_2).f0)] (fun _ => True) (fun _ => False) rfl rfl ?aP (fun _ hk => hk.elim) ?aF ?aO ?aB ?aS ?aL ?_
             (case aP => exact rfl)
             (case aB => exact (by repeat (first | (with_reducible first | exact HB.out | apply below_alloc | apply pw_below_drewN | apply below_drew1 | refine below_set ?_ GE221.out) | exact HB.out)))
             (case aF => exact (fun _ _ => trivial))
             (case aO => exact (by (with_reducible repeat (first | apply Kd.R_alloc | apply Kd.R_drewN | apply Kd.R_drew)); exact HO_6.out))
             (case aS => exact (below_size (by repeat (first | (with_reducible first | exact HB.out | apply below_alloc | apply pw_below_drewN | apply below_drew1 | refine below_set ?_ GE221.out) | exact HB.out))))
             (case aL => have := LMc18.out; omega)
             intro v223 w24 ho hb hg hat
             rw [← Ny222.out] at ho
             have n0_ := Aside0.mk (blk_grown (g := gb221) (o := .cells #[.int .u8 ((rd_T73 l0 x22_2).f0), .slice A220_1 ((rd_T73 l0 x22_2).f1).length c220_1] 73 (0, 0)) (by (with_reducible repeat (first | refine blk_drewN ?_ _ | refine blk_drew ?_ | refine blk_alloc ?_ _)); exact BK221.out) hg (Kd.R_ne HO_6.out BK221.out (by decide)))
             have n1_ := Aside0.mk (hb)
             have n2_ := Aside0.mk (ho)
             clear BK221
             clear HB
             clear HO_6
             have BK221 := n0_
             have HB := n1_
             have HO224 := n2_
             clear n0_ n1_ n2_
             clear ho hb hg hat
             refine hK.out _ _ ⟨(blk_cell BK221.out 0).trans rfl, (blk_cell BK221.out 1).trans rfl⟩ (fun hHeld => ?_)
             clear hK K
             refine norm_ (a' := ?_) ?_ ?_
             rotate_left
             ·show Act.put _ (some 30) _ = _
              simp only [Act.put, List.setIfInBounds_toArray, List.set_cons_zero, List.set_cons_succ, i64_w, i32_w]
              rfl
             refine one_ (i := 7) (N := some 33) #[true, true, true, true, true, true, true, true, false] rfl rfl (one_of HT_.out (by kernel_rfl)) (by decide) (fun K hK => ?_)
             refine Kd.R_append_rows_step (Kd.int .u8) (w0 := w) w.heap.size (by rfl) (.tmp 30) (.tmp 32) 22 5 (.int .u8 0) 1 rfl Try.underlying22 info5 rfl (by decide) (by omega) v223 y222 ((rd_T73 l0 x22_2).f1) _ _ _ (fun _ => True) (fun _ => False) rfl rfl ?aO ?aR (fun _ _ h => h) (fun _ h => h.elim) ?aF ?aB ?aS ?aL ?_
             (case aR => repeat (first | exact (Kd.C_below HR220_1.out HB.out) | (with_reducible refine Kd.C_alloc ?_ _) | (with_reducible refine Kd.C_drewN ?_ _) | (with_reducible refine Kd.C_drew ?_)))
             (case aB => exact (by repeat (first | (with_reducible first | exact HB.out | apply below_alloc | apply pw_below_drewN | apply below_drew1 | refine below_set ?_ GE221.out) | exact HB.out)))
             (case aF => exact (fun _ _ => trivial))
             (case aO => exact (by (with_reducible repeat (first | apply Kd.R_alloc | apply Kd.R_drewN | apply Kd.R_drew)); exact HO224.out))
             (case aS => exact (below_size (by repeat (first | (with_reducible first | exact HB.out | apply below_alloc | apply pw_below_drewN | apply below_drew1 | refine below_set ?_ GE221.out) | exact HB.out))))
             (case aL => have := LMc19.out; omega)
             intro v226 w25 ho hb hg hat
             rw [← Ny225.out] at ho
             have n0_ := Aside0.mk (blk_grown (g := gb221) (o := .cells #[.int .u8 ((rd_T73 l0 x22_2).f0), .slice A220_1 ((rd_T73 l0 x22_2).f1).length c220_1] 73 (0, 0)) (by (with_reducible repeat (first | refine blk_drewN ?_ _ | refine blk_drew ?_ | refine blk_alloc ?_ _)); exact BK221.out) hg (Kd.R_ne HO224.out BK221.out (by decide)))
             have n1_ := Aside0.mk (hb)
             have n2_ := Aside0.mk (ho)
             clear BK221
             clear HB
             clear HO224
             have BK221 := n0_
             have HB := n1_
             have HO227 := n2_
             clear n0_ n1_ n2_
             clear ho hb hg hat
             refine hK.out _ _ ⟨(blk_cell BK221.out 0).trans rfl, (blk_cell BK221.out 1).trans rfl⟩ (fun hHeld => ?_)
             clear hK K
             refine norm_ (a' := ?_) ?_ ?_
             rotate_left
             ·show Act.put _ (some 33) _ = _
              simp only [Act.put, List.setIfInBounds_toArray, List.set_cons_zero, List.set_cons_succ, i64_w, i32_w]
              rfl
             refine pure_ (i := 8) (N := some 6) (v := ?_) (a' := ?_) #[true, true, true, true, true, true, true, true, true] rfl rfl (any_of HT_.out (by kernel_rfl)) (fun _ _ _ h => h) (Or.inl ⟨by rfl, ?_⟩) ?_ ?_
             rotate_left
             ·intro w'
              go_simp
              with_reducible rfl
             rotate_left
             ·simp only [Act.put, List.setIfInBounds_toArray, List.set_cons_zero, List.set_cons_succ, i64_w, i32_w]
              rfl
             refine done_ (done_of HT_.out (by kernel_rfl)) ?_
             try go_wp2
             go_roundg k2
             case measure => have := HJ2.out; have := HK2.out; omega
             case rel => exact ⟨(y225), (wrap64 (x22_2 + 1)), (by first | rfl | (simp; done) | (simp [*]; done)), H', ⟨by have := HJ2.out; have := HK2.out; omega⟩, ⟨by (with_reducible repeat (first | apply Kd.R_alloc | apply Kd.R_drewN | apply Kd.R_drew)); exact HO227.out⟩, ⟨by repeat (first | (with_reducible first | exact HB.out | apply below_alloc | apply pw_below_drewN | apply below_drew1 | refine below_set ?_ GE221.out) | exact HB.out)⟩⟩
            ·rw [if_neg c19] at H
             exact absurd H (by simp)
           ·rw [if_neg c18] at H
            exact absurd H (by simp)
          ·rw [if_neg c17] at H
           exact absurd H (by simp)
         ·rw [if_neg c16] at H
          exact absurd H (by simp)
        ·rw [if_neg c15] at H
         have c15b0 : decide (x22_2 < (l0.length : Int)) = false := decide_eq_false c15
         clear c15
         obtain ⟨ji26, hji26⟩ : ∃ j_ : Int, (wrap64 (a1 - (x6_2.length : Int))) = j_ := ⟨_, rfl⟩
         replace H : (if 0 ≤ (ji26) then (if x6_2.length + (ji26 : Int).toNat < 140737488355328 then (some ((x6_2 ++ List.replicate (ji26 : Int).toNat 0), true)) else (none)) else (none)) = some (r1, r2) := by first | (rw [hji26] at H; exact H) | (simp only [hji26] at H ⊢; exact H)
         have hji26w : (IntKind.i64.wrap (a1 - (x6_2.length : Int))) = ji26 := (i64_w _).trans hji26
         by_cases c27 : 0 ≤ (ji26)
         ·rw [if_pos c27] at H
          have c27b0 := eq_true c27
          have c27b1 : decide (0 ≤ (ji26)) = true := decide_eq_true c27
          clear c27
          by_cases c28 : x6_2.length + (ji26 : Int).toNat < 140737488355328
          ·rw [if_pos c28] at H
           have LMc28 := Aside0.mk c28
           clear c28
           obtain ⟨y228, hy228⟩ : ∃ y_ : List Int, y_ = (x6_2 ++ List.replicate (ji26 : Int).toNat 0) := ⟨_, rfl⟩
           replace H : (some (y228, true)) = some (r1, r2) := by first | (rw [hy228]; with_reducible exact H) | (have H2_ := (Option.bind_some _ _).symm.trans H; rw [hy228]; with_reducible exact H2_) | (have H2_ := (Option.bind_some _ _).symm.trans H; with_reducible exact H2_) | with_reducible exact H | (rw [hy228]; exact H) | exact H
           have Ny228 := Aside0.mk hy228
           clear hy228
           simp only [Option.some.injEq, Prod.mk.injEq] at H
           obtain ⟨rfl, rfl⟩ := H
           obtain ⟨Ao29, co29, eo29⟩ := Kd.R_slice HO_6.out
           subst eo29
           go_wp2_with (first | (at_builtin; refine Kd.R_append_zeros (Kd.int .u8) (w0 := w) w.heap.size rfl (.tmp 35) (.tmp 39) 22 3 5 (.int .u8 0) 1 rfl Try.underlying22 Try.underlying3 info5 rfl (by decide) (by omega) (.slice Ao29 x6_2.length co29) x6_2 0 (ji26 : Int) (fun _ => True) rfl rfl rfl ?aF ?aO (of_decide_eq_true (by first | (with_reducible assumption) | assumption)) ?aB ?aS ?aL ?_; (case aB => exact (by repeat (first | (with_reducible first | exact HB.out | apply below_alloc | apply pw_below_drewN | apply below_drew1) | exact HB.out))); (case aF => exact (fun _ _ => trivial)); (case aO => exact (by (with_reducible repeat (first | apply Kd.R_alloc | apply Kd.R_drewN | apply Kd.R_drew)); exact HO_6.out)); (case aS => exact (below_size (by repeat (first | (with_reducible first | exact HB.out | apply below_alloc | apply pw_below_drewN | apply below_drew1) | exact HB.out)))); (case aL => have := LMc28.out; omega); intro v229 w30 ho hb hg hat; (first | rw [← Ny228.out] at ho | (simp only [Int.reduceToNat] at ho; rw [← Ny228.out] at ho)); have n0_ := Aside0.mk (hb); have n1_ := Aside0.mk (ho); clear HB; clear HO_6; have HB := n0_; have HO230 := n1_; clear n0_ n1_; clear ho hb hg hat))
           go_ret2
           exact ⟨_, by first | rfl | (simp [errW_none, errW_some] <;> rfl) | (simp only [← hji26]; first | rfl | (simp [errW_none, errW_some] <;> rfl)) | (simp [*, errW_none, errW_some] <;> rfl), by (with_reducible repeat (first | apply Kd.R_alloc | apply Kd.R_drewN | apply Kd.R_drew)); exact HO230.out, by repeat (first | (with_reducible first | exact HB.out | apply below_alloc | apply pw_below_drewN | apply below_drew1) | exact HB.out)⟩
          ·rw [if_neg c28] at H
           exact absurd H (by simp)
         ·rw [if_neg c27] at H
          exact absurd H (by simp)
     ·rw [if_neg c12] at H
      exact absurd H (by simp)
    ·rw [if_neg c11] at H
     exact absurd H (by simp)
theorem block_Side.calls (k : Nat) (A0 : Option Addr) (c0 : Nat) (l0 : List (S73)) (a1 : Int) (r1 : List Int) (r2 : Bool) (w : World) (hr0 : Kd.C k73 w A0 l0.length l0) (hc0 : l0.length ≤ c0) (h : block_Side.f k l0 a1 = some (r1, r2)) :
  Calls Try.prog 29 #[.slice A0 l0.length c0, .int .i64 a1] w fun e w' => ∃ v0_ : Value, e = .returned (.tuple #[v0_, .bool r2]) ∧ Kd.V (Kd.int .u8) 5 w' w.heap.size (fun k_ => (w.heap.size ≤ k_)) v0_ r1 ∧ Below w.heap.size w w' := by
 refine (block_Side.callsR k A0 c0 l0 a1 r1 r2 w hr0 hc0 h).mono ?_
 rintro e w' ⟨v0_, rfl, ho, hb⟩
 exact ⟨v0_, rfl, Kd.V_mono (Kd.N_V (Kd.R_N (Kd.R_bound ho))) (fun _ hk => hk.2.1), hb⟩

end Go.Proofs.Ythnfmoaiejaheaa.PDiskTos
