-- made by a program of this repo (wip/patch_print.py); not trusted: Lean checks it
import Derived.Test.YthnfmoaiejaheaaPDiskTosx0
import Derived.Test.YthnfmoaiejaheaaPDiskTosx1
import Derived.Test.YthnfmoaiejaheaaPDiskTosx4
namespace Go.Proofs.Ythnfmoaiejaheaa.PDiskTos
open Go.RowKit Go.Proofs.YthnfmoaiejaheaaW.PrintWords Go.Proofs.YthnfmoaiejaheaaW.PrintLast Go.Proofs.YthnfmoaiejaheaaW.PrintMore
attribute [local go_sem] max2_int min2_int max_two min_two max_three min_three max_four min_four   -- for this text's walks alone
set_option linter.unusedVariables false
set_option linter.unusedSimpArgs false

/-! ### block_Want: function 39 -/
def block_Want.f (k : Nat) (l0 : List (S73)) : Option (Int × Int) := (block_Right.f k l0).bind fun t166 => (if t166 = true then (if (l0.length : Int) > 0 then (if 0 ≤ (wrap64 ((l0.length : Int) - 1)) then (if (wrap64 ((l0.length : Int) - 1)) < (l0.length : Int) then ((block_expects.f (l0.length : Int) ((rd_T73 l0 (wrap64 ((l0.length : Int) - 1))).f1)).bind fun bt168 => (some (bt168.1, bt168.2))) else (none)) else (none)) else ((block_expects.f (l0.length : Int) ([] : List Int)).bind fun bt170 => (some (bt170.1, bt170.2)))) else (some (0, 0)))
set_option maxHeartbeats 8000000 in
set_option maxRecDepth 100000 in
theorem block_Want.calls (k : Nat) (A0 : Option Addr) (c0 : Nat) (l0 : List (S73)) (r1 : Int) (r2 : Int) (w : World) (hr0 : Kd.C k73 w A0 l0.length l0) (hc0 : l0.length ≤ c0) (h : block_Want.f k l0 = some (r1, r2)) :
  Calls Try.prog 39 #[.slice A0 l0.length c0] w fun e w' => e = .returned (.tuple #[.int .u8 r1, .int .i64 r2]) ∧ Below w.heap.size w w' := by
 have HR0 := Aside0.mk hr0
 have HC0 := Aside0.mk hc0
 clear hr0 hc0
 have HB := Aside0.mk (Below.refl w.heap.size w)
 have H : ((block_Right.f k l0).bind fun t166 => (if t166 = true then (if (l0.length : Int) > 0 then (if 0 ≤ (wrap64 ((l0.length : Int) - 1)) then (if (wrap64 ((l0.length : Int) - 1)) < (l0.length : Int) then ((block_expects.f (l0.length : Int) ((rd_T73 l0 (wrap64 ((l0.length : Int) - 1))).f1)).bind fun bt168 => (some (bt168.1, bt168.2))) else (none)) else (none)) else ((block_expects.f (l0.length : Int) ([] : List Int)).bind fun bt170 => (some (bt170.1, bt170.2)))) else (some (0, 0)))) = some (r1, r2) := h
 clear h
 replace H := Option.bind_eq_some_iff.mp H
 obtain ⟨t166, A20, H⟩ := H
 replace H : (if t166 = true then (if (l0.length : Int) > 0 then (if 0 ≤ (wrap64 ((l0.length : Int) - 1)) then (if (wrap64 ((l0.length : Int) - 1)) < (l0.length : Int) then ((block_expects.f (l0.length : Int) ((rd_T73 l0 (wrap64 ((l0.length : Int) - 1))).f1)).bind fun bt168 => (some (bt168.1, bt168.2))) else (none)) else (none)) else ((block_expects.f (l0.length : Int) ([] : List Int)).bind fun bt170 => (some (bt170.1, bt170.2)))) else (some (0, 0))) = some (r1, r2) := H
 have A2 := Aside0.mk A20
 clear A20
 by_cases c3 : t166 = true
 ·subst c3
  have H1 : (if (l0.length : Int) > 0 then (if 0 ≤ (wrap64 ((l0.length : Int) - 1)) then (if (wrap64 ((l0.length : Int) - 1)) < (l0.length : Int) then ((block_expects.f (l0.length : Int) ((rd_T73 l0 (wrap64 ((l0.length : Int) - 1))).f1)).bind fun bt168 => (some (bt168.1, bt168.2))) else (none)) else (none)) else ((block_expects.f (l0.length : Int) ([] : List Int)).bind fun bt170 => (some (bt170.1, bt170.2)))) = some (r1, r2) := by rw [if_pos rfl] at H; exact H
  clear H
  have H := H1
  clear H1
  by_cases c4 : (l0.length : Int) > 0
  ·rw [if_pos c4] at H
   have c4b0 : decide (0 < (l0.length : Int)) = true := decide_eq_true c4
   have c4b1 : decide (0 < l0.length) = true := decide_eq_true (by omega)
   clear c4
   obtain ⟨ji5, hji5⟩ : ∃ j_ : Int, (wrap64 ((l0.length : Int) - 1)) = j_ := ⟨_, rfl⟩
   replace H : (if 0 ≤ (ji5) then (if (ji5) < (l0.length : Int) then ((block_expects.f (l0.length : Int) ((rd_T73 l0 (ji5)).f1)).bind fun bt168 => (some (bt168.1, bt168.2))) else (none)) else (none)) = some (r1, r2) := by first | (rw [hji5] at H; exact H) | (simp only [hji5] at H ⊢; exact H)
   (try rw [hji5] at A2)
   have hji5w : (IntKind.i64.wrap ((l0.length : Int) - 1)) = ji5 := (i64_w _).trans hji5
   by_cases c6 : 0 ≤ (ji5)
   ·rw [if_pos c6] at H
    have c6b0 : decide (0 ≤ (ji5)) = true := decide_eq_true c6
    clear c6
    by_cases c7 : (ji5) < (l0.length : Int)
    ·rw [if_pos c7] at H
     have c7b0 : decide ((ji5) < (l0.length : Int)) = true := decide_eq_true c7
     clear c7
     replace H := Option.bind_eq_some_iff.mp H
     obtain ⟨⟨t168, t169⟩, A80, H⟩ := H
     replace H : (some (t168, t169)) = some (r1, r2) := H
     have A8 := Aside0.mk A80
     clear A80
     simp only [Option.some.injEq, Prod.mk.injEq] at H
     obtain ⟨rfl, rfl⟩ := H
     go_enter Try.func39, Try.ntmps39
     go_wp2_with (first | ((with_reducible refine gate_callee (f := 45) rfl ?_); refine goesL_ (some 6) rfl rfl Try.func45 (by kernel_rfl) rfl #[.slice A0 l0.length c0] rfl (by (try simp only [List.map_toArray, List.map_cons, List.map_nil]); first | done | rfl | (simp only [List.length_drop, List.length_take]; rfl)) ?_; (with_reducible refine (block_Right.calls k (fun k_ => k_ < w.heap.size) _ _ l0 true _ ?side1 A2.out).mono ?_); (case side1 => exact Kd.V_mk HC0.out (Kd.F_below (Kd.C_F k73_heap HR0.out) (by repeat (first | (with_reducible first | exact HB.out | apply below_alloc | apply pw_below_drewN | apply below_drew1) | exact HB.out)))); rintro e w9 ⟨rfl, hb⟩; refine ⟨_, rfl, ?_⟩; have n0_ := Aside0.mk (below_step (by repeat (first | (with_reducible first | exact HB.out | apply below_alloc | apply pw_below_drewN | apply below_drew1) | exact HB.out)) hb); clear HB; have HB := n0_; clear n0_; (try clear hb); (try clear hb2); (try clear hk); (try clear hi); have p167 : 0 ≤ ((ji5) : Int) := of_decide_eq_true (by first | (with_reducible assumption) | assumption); have q167 : (ji5) < (l0.length : Int) := of_decide_eq_true (by first | (with_reducible assumption) | assumption); obtain ⟨ad167, A167_1, c167_1, e167, hx167_0, hx167_1, hl167_1, hi167_1⟩ := at_T73 HR0.out (ji5) p167 q167; cases e167; replace hx167_0 := (HB.out.cell (World.block_lt_of_cell? w _ hx167_0)).trans hx167_0; replace hx167_1 := (HB.out.cell (World.block_lt_of_cell? w _ hx167_1)).trans hx167_1; have HR167_1 := Aside0.mk hi167_1; have HC167_1 := Aside0.mk hl167_1; clear hi167_1 hl167_1; replace p167 := eq_true p167; replace q167 := eq_true q167) | ((with_reducible refine gate_callee (f := 54) rfl ?_); refine goesL_ (some 21) rfl rfl Try.func54 (by kernel_rfl) rfl #[.int .i64 (l0.length : Int), .slice A167_1 ((rd_T73 l0 (ji5)).f1).length c167_1] rfl (by (try simp only [List.map_toArray, List.map_cons, List.map_nil]); first | done | (simp only [hji5]; rfl) | rfl | (simp only [List.length_drop, List.length_take]; rfl)) ?_; (with_reducible refine (block_expects.calls (l0.length : Int) _ _ ((rd_T73 l0 (ji5)).f1) t168 t169 _ ?side1 ?side2 A8.out).mono ?_); (case side1 => repeat (first | exact (Kd.C_below HR167_1.out HB.out) | (with_reducible refine Kd.C_alloc ?_ _) | (with_reducible refine Kd.C_drewN ?_ _) | (with_reducible refine Kd.C_drew ?_))); (case side2 => exact HC167_1.out); rintro e w' ⟨rfl, ⟨nd, rfl⟩⟩; refine ⟨_, rfl, ?_⟩))
     go_ret2
     exact ⟨by first | rfl | (simp [errW_none, errW_some] <;> rfl) | (simp only [← hji5]; first | rfl | (simp [errW_none, errW_some] <;> rfl)) | (simp [*, errW_none, errW_some] <;> rfl), by repeat (first | (with_reducible first | exact HB.out | apply below_alloc | apply pw_below_drewN | apply below_drew1) | exact HB.out)⟩
    ·rw [if_neg c7] at H
     exact absurd H (by simp)
   ·rw [if_neg c6] at H
    exact absurd H (by simp)
  ·rw [if_neg c4] at H
   have c4b0 : decide (0 < (l0.length : Int)) = false := decide_eq_false c4
   have c4b1 : decide (0 < l0.length) = false := decide_eq_false (by omega)
   clear c4
   replace H := Option.bind_eq_some_iff.mp H
   obtain ⟨⟨t170, t171⟩, A100, H⟩ := H
   replace H : (some (t170, t171)) = some (r1, r2) := H
   have A10 := Aside0.mk A100
   clear A100
   simp only [Option.some.injEq, Prod.mk.injEq] at H
   obtain ⟨rfl, rfl⟩ := H
   go_enter Try.func39, Try.ntmps39
   go_wp2_with (first | ((with_reducible refine gate_callee (f := 45) rfl ?_); refine goesL_ (some 6) rfl rfl Try.func45 (by kernel_rfl) rfl #[.slice A0 l0.length c0] rfl (by (try simp only [List.map_toArray, List.map_cons, List.map_nil]); first | done | rfl | (simp only [List.length_drop, List.length_take]; rfl)) ?_; (with_reducible refine (block_Right.calls k (fun k_ => k_ < w.heap.size) _ _ l0 true _ ?side1 A2.out).mono ?_); (case side1 => exact Kd.V_mk HC0.out (Kd.F_below (Kd.C_F k73_heap HR0.out) (by repeat (first | (with_reducible first | exact HB.out | apply below_alloc | apply pw_below_drewN | apply below_drew1) | exact HB.out)))); rintro e w11 ⟨rfl, hb⟩; refine ⟨_, rfl, ?_⟩; have n0_ := Aside0.mk (below_step (by repeat (first | (with_reducible first | exact HB.out | apply below_alloc | apply pw_below_drewN | apply below_drew1) | exact HB.out)) hb); clear HB; have HB := n0_; clear n0_; (try clear hb); (try clear hb2); (try clear hk); (try clear hi)) | ((with_reducible refine gate_callee (f := 54) rfl ?_); refine goesL_ (some 21) rfl rfl Try.func54 (by kernel_rfl) rfl #[.int .i64 (l0.length : Int), .slice none 0 0] rfl (by (try simp only [List.map_toArray, List.map_cons, List.map_nil]); first | done | rfl | (simp only [List.length_drop, List.length_take]; rfl)) ?_; (refine (block_expects.calls (l0.length : Int) _ _ ([] : List Int) t170 t171 _ ?side1 ?side2 A10.out).mono ?_); (case side1 => exact Kd.C_nil _ _); (case side2 => exact Nat.le_refl _); rintro e w' ⟨rfl, ⟨nd, rfl⟩⟩; refine ⟨_, rfl, ?_⟩))
   go_ret2
   exact ⟨by first | rfl | (simp [errW_none, errW_some] <;> rfl) | (simp [*, errW_none, errW_some] <;> rfl), by repeat (first | (with_reducible first | exact HB.out | apply below_alloc | apply pw_below_drewN | apply below_drew1) | exact HB.out)⟩
 ·replace c3 := Bool.eq_false_iff.mpr c3
  subst c3
  have H1 : (some (0, 0)) = some (r1, r2) := by rw [if_neg (show ¬ (false = true) by decide)] at H; exact H
  clear H
  have H := H1
  clear H1
  simp only [Option.some.injEq, Prod.mk.injEq] at H
  obtain ⟨rfl, rfl⟩ := H
  go_enter Try.func39, Try.ntmps39
  go_wp2_with (first | ((with_reducible refine gate_callee (f := 45) rfl ?_); refine goesL_ (some 6) rfl rfl Try.func45 (by kernel_rfl) rfl #[.slice A0 l0.length c0] rfl (by (try simp only [List.map_toArray, List.map_cons, List.map_nil]); first | done | rfl | (simp only [List.length_drop, List.length_take]; rfl)) ?_; (with_reducible refine (block_Right.calls k (fun k_ => k_ < w.heap.size) _ _ l0 false _ ?side1 A2.out).mono ?_); (case side1 => exact Kd.V_mk HC0.out (Kd.F_below (Kd.C_F k73_heap HR0.out) (by repeat (first | (with_reducible first | exact HB.out | apply below_alloc | apply pw_below_drewN | apply below_drew1) | exact HB.out)))); rintro e w12 ⟨rfl, hb⟩; refine ⟨_, rfl, ?_⟩; have n0_ := Aside0.mk (below_step (by repeat (first | (with_reducible first | exact HB.out | apply below_alloc | apply pw_below_drewN | apply below_drew1) | exact HB.out)) hb); clear HB; have HB := n0_; clear n0_; (try clear hb); (try clear hb2); (try clear hk); (try clear hi)))
  go_ret2
  exact ⟨by first | rfl | (simp [errW_none, errW_some] <;> rfl) | (simp [*, errW_none, errW_some] <;> rfl), by repeat (first | (with_reducible first | exact HB.out | apply below_alloc | apply pw_below_drewN | apply below_drew1) | exact HB.out)⟩

/-! ### seal_Step: function 55 -/
def seal_Step.l0 : Nat → Int → Int → Int → Option (Int)
 | 0, _, _, _ => none
 | k + 1, x0, x1, x7 => if x7 < 8 then (if 0 ≤ x7 then (seal_Step.l0 k (Go.bits .xor .u16 (Go.bits .or .u16 (x0 / 2) (IntKind.u16.wrap ((IntKind.u16.wrap (Go.bits .and .u8 (shr .u8 x1 x7) 1)) * 32768))) (IntKind.u16.wrap (33800 * (Go.bits .and .u16 x0 1)))) x1 (wrap64 (x7 + 1))) else (none)) else (some x0)
def seal_Step.f (k : Nat) (a0 : Int) (a1 : Int) : Option (Int) := seal_Step.l0 k a0 a1 0
set_option maxHeartbeats 8000000 in
set_option maxRecDepth 100000 in
theorem seal_Step.calls (k : Nat) (a0 : Int) (a1 : Int) (r : Int) (w : World) (h : seal_Step.f k a0 a1 = some r) :
  Calls Try.prog 55 #[.int .u16 a0, .int .u8 a1] w fun e w' => e = .returned (.int .u16 r) ∧ Drawn0 w w' := by
 have H : (seal_Step.l0 k a0 a1 0) = some r := h
 clear h
 have H' := Aside0.mk H
 clear H
 go_enter Try.func55, Try.ntmps55
 go_wp2
 go_loopg [0, 7] k (fun kq v0 v7 w' => ∃ (x0_1 : Int) (x7_1 : Int), v0 = .int .u16 x0_1 ∧ v7 = .int .i64 x7_1 ∧ Aside0 (seal_Step.l0 kq x0_1 a1 x7_1 = some r) ∧ Aside0 (kq ≤ k) ∧ Drawn0 w w')
 case atStart => exact ⟨(a0), (0), (by first | rfl | (simp; done) | (simp [*]; done)), (by first | rfl | (simp; done) | (simp [*]; done)), H', ⟨Nat.le_refl _⟩, by repeat (first | exact Drawn0.refl _ | apply Drawn0.step)⟩
 case round =>
  clear H'
  try clear p2
  obtain ⟨x0_1, x7_1, rfl, rfl, HA, HK1, ⟨m1, rfl⟩⟩ := hrel
  cases gk with
  | zero => exact absurd HA.out (by simp [seal_Step.l0])
  | succ k1 =>
   have H := HA.out
   clear HA
   simp only [seal_Step.l0] at H
   by_cases c3 : x7_1 < 8
   ·rw [if_pos c3] at H
    have c3b0 : decide (x7_1 < 8) = true := decide_eq_true c3
    clear c3
    by_cases c4 : 0 ≤ x7_1
    ·rw [if_pos c4] at H
     have c4b0 := eq_true c4
     have c4b1 : decide (0 ≤ x7_1) = true := decide_eq_true c4
     clear c4
     obtain ⟨ji5, hji5⟩ : ∃ j_ : Int, (shr .u8 a1 x7_1) = j_ := ⟨_, rfl⟩
     replace H : (seal_Step.l0 k1 (Go.bits .xor .u16 (Go.bits .or .u16 (x0_1 / 2) (IntKind.u16.wrap ((IntKind.u16.wrap (Go.bits .and .u8 (ji5) 1)) * 32768))) (IntKind.u16.wrap (33800 * (Go.bits .and .u16 x0_1 1)))) a1 (wrap64 (x7_1 + 1))) = some r := by first | (rw [hji5] at H; exact H) | (simp only [hji5] at H ⊢; exact H)
     have hji5_ : (a1 / 2 ^ min x7_1.toNat 8) = ji5 := hji5
     have hji5z : x7_1 ≤ 8 → (a1 / 2 ^ x7_1.toNat) = ji5 := shr_small hji5
     have H' := Aside0.mk H
     clear H
     go_wp2
     go_roundg k1
     case measure => have := HK1.out; omega
     case rel => exact ⟨(Go.bits .xor .u16 (Go.bits .or .u16 (x0_1 / 2) (IntKind.u16.wrap ((IntKind.u16.wrap (Go.bits .and .u8 (ji5) 1)) * 32768))) (IntKind.u16.wrap (33800 * (Go.bits .and .u16 x0_1 1)))), (wrap64 (x7_1 + 1)), (by first | rfl | (simp; done) | (simp only [← hji5] <;> (first | rfl | simp)) | (simp [*]; done)), (by first | rfl | (simp; done) | (simp [*]; done)), H', ⟨by have := HK1.out; omega⟩, by repeat (first | exact Drawn0.refl _ | apply Drawn0.step)⟩
    ·rw [if_neg c4] at H
     exact absurd H (by simp)
   ·rw [if_neg c3] at H
    have c3b0 : decide (x7_1 < 8) = false := decide_eq_false c3
    clear c3
    obtain rfl := Option.some.inj H
    go_wp2
    go_ret
    exact ⟨by first | rfl | (simp; done) | (simp [*]; done), by repeat (first | exact Drawn0.refl _ | apply Drawn0.step)⟩

/-! ### seal_Short: function 40 -/
def seal_Short.l0 : Nat → Int → List Int → Int → Int → Option (Int)
 | 0, _, _, _, _ => none
 | k + 1, x3, x6, x7, x8 => if x8 < x7 then (if 0 ≤ x8 then (if x8 < (x6.length : Int) then ((seal_Step.f k x3 (rd x6 x8)).bind fun t173 => (seal_Short.l0 k t173 x6 x7 (wrap64 (x8 + 1)))) else (none)) else (none)) else ((seal_Step.f k x3 0).bind fun t174 => ((seal_Step.f k t174 0).bind fun t175 => (some t175)))
def seal_Short.f (k : Nat) (l0 : List Int) : Option (Int) := seal_Short.l0 k 32768 l0 (l0.length : Int) 0
set_option maxHeartbeats 8000000 in
set_option maxRecDepth 100000 in
theorem seal_Short.calls (k : Nat) (A0 : Option Addr) (c0 : Nat) (l0 : List Int) (r : Int) (w : World) (hr0 : Kd.C (Kd.int .u8) w A0 l0.length l0) (hc0 : l0.length ≤ c0) (h : seal_Short.f k l0 = some r) :
  Calls Try.prog 40 #[.slice A0 l0.length c0] w fun e w' => e = .returned (.int .u16 r) ∧ Drawn0 w w' := by
 have HR0 := Aside0.mk hr0
 have HC0 := Aside0.mk hc0
 clear hr0 hc0
 have H : (seal_Short.l0 k 32768 l0 (l0.length : Int) 0) = some r := h
 clear h
 have H' := Aside0.mk H
 clear H
 go_enter Try.func40, Try.ntmps40
 go_wp2
 go_loopg [3, 8] k (fun kq v3 v8 w' => ∃ (x3_1 : Int) (x8_1 : Int), v3 = .int .u16 x3_1 ∧ v8 = .int .i64 x8_1 ∧ Aside0 (seal_Short.l0 kq x3_1 l0 (l0.length : Int) x8_1 = some r) ∧ Aside0 (kq ≤ k) ∧ Drawn0 w w')
 case atStart => exact ⟨(32768), (0), (by first | rfl | (simp; done) | (simp [*]; done)), (by first | rfl | (simp; done) | (simp [*]; done)), H', ⟨Nat.le_refl _⟩, by repeat (first | exact Drawn0.refl _ | apply Drawn0.step)⟩
 case round =>
  clear H'
  obtain ⟨x3_1, x8_1, rfl, rfl, HA, HK1, ⟨m1, rfl⟩⟩ := hrel
  cases gk with
  | zero => exact absurd HA.out (by simp [seal_Short.l0])
  | succ k1 =>
   have H := HA.out
   clear HA
   simp only [seal_Short.l0] at H
   by_cases c2 : x8_1 < (l0.length : Int)
   ·rw [if_pos c2] at H
    have c2b0 : decide (x8_1 < (l0.length : Int)) = true := decide_eq_true c2
    clear c2
    by_cases c3 : 0 ≤ x8_1
    ·rw [if_pos c3] at H
     have c3b0 : decide (0 ≤ x8_1) = true := decide_eq_true c3
     clear c3
     by_cases c4 : x8_1 < (l0.length : Int)
     ·rw [if_pos c4] at H
      have c4b0 : decide (x8_1 < (l0.length : Int)) = true := decide_eq_true c4
      clear c4
      replace H := Option.bind_eq_some_iff.mp H
      obtain ⟨t173, A50, H⟩ := H
      replace H : (seal_Short.l0 k1 t173 l0 (l0.length : Int) (wrap64 (x8_1 + 1))) = some r := H
      have A5 := Aside0.mk A50
      clear A50
      have H' := Aside0.mk H
      clear H
      have p172 : 0 ≤ (x8_1 : Int) := of_decide_eq_true (by first | (with_reducible assumption) | assumption)
      have q172 : x8_1 < (l0.length : Int) := of_decide_eq_true (by first | (with_reducible assumption) | assumption)
      obtain ⟨ad172, e172, hx172_0⟩ := Kd.at_int HR0.out x8_1 p172 q172
      cases e172
      replace p172 := eq_true p172
      replace q172 := eq_true q172
      go_wp2_with (first | ((with_reducible refine gate_callee (f := 55) rfl ?_); refine goesL_ (some 14) rfl rfl Try.func55 (by kernel_rfl) rfl #[.int .u16 x3_1, .int .u8 (rd l0 x8_1)] rfl (by (try simp only [List.map_toArray, List.map_cons, List.map_nil]); first | done | rfl | (simp only [List.length_drop, List.length_take]; rfl)) ?_; (with_reducible refine (seal_Step.calls k1 x3_1 (rd l0 x8_1) t173 _ A5.out).mono ?_); rintro e w' ⟨rfl, ⟨nd, rfl⟩⟩; refine ⟨_, rfl, ?_⟩))
      go_roundg k1
      case measure => have := HK1.out; omega
      case rel => exact ⟨(t173), (wrap64 (x8_1 + 1)), (by first | rfl | (simp; done) | (simp [*]; done)), (by first | rfl | (simp; done) | (simp [*]; done)), H', ⟨by have := HK1.out; omega⟩, by repeat (first | exact Drawn0.refl _ | apply Drawn0.step)⟩
     ·rw [if_neg c4] at H
      exact absurd H (by simp)
    ·rw [if_neg c3] at H
     exact absurd H (by simp)
   ·rw [if_neg c2] at H
    have c2b0 : decide (x8_1 < (l0.length : Int)) = false := decide_eq_false c2
    clear c2
    replace H := Option.bind_eq_some_iff.mp H
    obtain ⟨t174, A60, H⟩ := H
    replace H : ((seal_Step.f k1 t174 0).bind fun t175 => (some t175)) = some r := H
    have A6 := Aside0.mk A60
    clear A60
    replace H := Option.bind_eq_some_iff.mp H
    obtain ⟨t175, A70, H⟩ := H
    replace H : (some t175) = some r := H
    have A7 := Aside0.mk A70
    clear A70
    obtain rfl := Option.some.inj H
    go_wp2_with (first | ((with_reducible refine gate_callee (f := 55) rfl ?_); refine goesL_ (some 17) rfl rfl Try.func55 (by kernel_rfl) rfl #[.int .u16 x3_1, .int .u8 0] rfl (by (try simp only [List.map_toArray, List.map_cons, List.map_nil]); first | done | rfl | (simp only [List.length_drop, List.length_take]; rfl)) ?_; (with_reducible refine (seal_Step.calls k1 x3_1 0 t174 _ A6.out).mono ?_); rintro e w' ⟨rfl, ⟨nd, rfl⟩⟩; refine ⟨_, rfl, ?_⟩) | ((with_reducible refine gate_callee (f := 55) rfl ?_); refine goesL_ (some 18) rfl rfl Try.func55 (by kernel_rfl) rfl #[.int .u16 t174, .int .u8 0] rfl (by (try simp only [List.map_toArray, List.map_cons, List.map_nil]); first | done | rfl | (simp only [List.length_drop, List.length_take]; rfl)) ?_; (with_reducible refine (seal_Step.calls k1 t174 0 t175 _ A7.out).mono ?_); rintro e w' ⟨rfl, ⟨nd, rfl⟩⟩; refine ⟨_, rfl, ?_⟩))
    go_ret
    exact ⟨by first | rfl | (simp; done) | (simp [*]; done), by repeat (first | exact Drawn0.refl _ | apply Drawn0.step)⟩

/-! ### disk_Unwrap: function 21 -/
mutual
def disk_Unwrap.l0 : Nat → List Int → List (S73) → Int → Option ((List (S73)) × Int)
 | 0, _, _, _ => none
 | k + 1, x0, x4, x5 => if x5 < (x0.length : Int) then ((block_Want.f k x4).bind fun bt176 => (if bt176.1 = 0 then (disk_Unwrap.j1 k x0 x4 x5 bt176.1 bt176.2 true) else (if 0 ≤ x5 then (disk_Unwrap.j1 k x0 x4 x5 bt176.1 bt176.2 ((rd x0 x5) != bt176.1)) else (none)))) else (some (x4, 0))
def disk_Unwrap.j1 : Nat → List Int → List (S73) → Int → Int → Int → Bool → Option ((List (S73)) × Int)
 | 0, _, _, _, _, _, _ => none
 | k + 1, x0, x4, x5, x6, x7, x27 => if x27 = true then (some (x4, 0)) else (if (wrap64 ((wrap64 ((wrap64 (x5 + 1)) + x7)) + 2)) > (x0.length : Int) then (some (([] : List (S73)), 2)) else (if 0 ≤ x5 then (if x5 ≤ (wrap64 ((wrap64 (x5 + 1)) + x7)) then (if (wrap64 ((wrap64 (x5 + 1)) + x7)) ≤ (x0.length : Int) then ((seal_Short.f k ((x0.take ((wrap64 ((wrap64 (x5 + 1)) + x7)) : Int).toNat).drop (x5 : Int).toNat)).bind fun t180 => (if 0 ≤ (wrap64 ((wrap64 (x5 + 1)) + x7)) then (if (wrap64 ((wrap64 (x5 + 1)) + x7)) < (x0.length : Int) then (if 0 ≤ (wrap64 ((wrap64 ((wrap64 (x5 + 1)) + x7)) + 1)) then (if (wrap64 ((wrap64 ((wrap64 (x5 + 1)) + x7)) + 1)) < (x0.length : Int) then (if t180 = (Go.bits .or .u16 (IntKind.u16.wrap (rd x0 (wrap64 ((wrap64 (x5 + 1)) + x7)))) (IntKind.u16.wrap ((IntKind.u16.wrap (rd x0 (wrap64 ((wrap64 ((wrap64 (x5 + 1)) + x7)) + 1)))) * 256))) then (if 0 ≤ (wrap64 (x5 + 1)) then (if (wrap64 (x5 + 1)) ≤ (wrap64 ((wrap64 (x5 + 1)) + x7)) then ((bytes_Clone.f ((x0.take ((wrap64 ((wrap64 (x5 + 1)) + x7)) : Int).toNat).drop ((wrap64 (x5 + 1)) : Int).toNat)).bind fun t184 => (if x4.length < 4398046511104 then (disk_Unwrap.l0 k x0 (x4 ++ [(⟨x6, t184⟩ : S73)]) (wrap64 ((wrap64 ((wrap64 (x5 + 1)) + x7)) + 2))) else (none))) else (none)) else (none)) else (some (([] : List (S73)), 3))) else (none)) else (none)) else (none)) else (none))) else (none)) else (none)) else (none)))
end
def disk_Unwrap.f (k : Nat) (l0 : List Int) : Option ((List (S73)) × Int) := disk_Unwrap.l0 k l0 ([] : List (S73)) 0
set_option maxHeartbeats 8000000 in
set_option maxRecDepth 100000 in
theorem disk_Unwrap.calls (k : Nat) (A0 : Option Addr) (c0 : Nat) (l0 : List Int) (r1 : List (S73)) (r2 : Int) (w : World) (hr0 : Kd.C (Kd.int .u8) w A0 l0.length l0) (hc0 : l0.length ≤ c0) (h : disk_Unwrap.f k l0 = some (r1, r2)) :
  Calls Try.prog 21 #[.slice A0 l0.length c0] w fun e w' => ∃ v0_ : Value, e = .returned (.tuple #[v0_, .int .i64 r2]) ∧ Kd.N k73 73 w' w.heap.size (fun k_ => (w.heap.size ≤ k_)) v0_ r1 ∧ Below w.heap.size w w' := by
 have hu73 := Try.underlying73
 have HR0 := Aside0.mk hr0
 have HC0 := Aside0.mk hc0
 clear hr0 hc0
 have HB := Aside0.mk (Below.refl w.heap.size w)
 have H : (disk_Unwrap.l0 k l0 ([] : List (S73)) 0) = some (r1, r2) := h
 clear h
 have H' := Aside0.mk H
 clear H
 go_enter Try.func21, Try.ntmps21
 go_wp2
 repeat (go_quiet (fail); try go_wp2)
 go_loopg [4, 5] k (fun kq v4 v5 w' => ∃ (x4_1 : List (S73)) (x5_1 : Int), v5 = .int .i64 x5_1 ∧ Aside0 (disk_Unwrap.l0 kq l0 x4_1 x5_1 = some (r1, r2)) ∧ Aside0 (kq ≤ k) ∧ Aside0 (Kd.N k73 73 w' w.heap.size (fun k_ => (w.heap.size ≤ k_)) v4 x4_1) ∧ Aside0 (Below w.heap.size w w'))
 case atStart => exact ⟨(([] : List (S73))), (0), (by first | rfl | (simp; done) | (simp [*]; done)), H', ⟨Nat.le_refl _⟩, ⟨by first | exact Kd.S_nil _ _ _ _ _ | exact Kd.N_nil _ _ _ _ _ | exact Kd.V_nil _ _ _ _ _ | exact Kd.Q_nil _ _ _ _ _ | exact Kd.R_nil _ _ _ _ _⟩, ⟨by repeat (first | (with_reducible first | exact HB.out | apply below_alloc | apply pw_below_drewN | apply below_drew1) | exact HB.out)⟩⟩
 case round =>
  clear H'
  obtain ⟨x4_1, x5_1, rfl, HA, HK1, HO_4, HB⟩ := hrel
  cases gk with
  | zero => exact absurd HA.out (by simp [disk_Unwrap.l0])
  | succ k1 =>
   have H := HA.out
   clear HA
   simp only [disk_Unwrap.l0] at H
   by_cases c2 : x5_1 < (l0.length : Int)
   ·rw [if_pos c2] at H
    have c2b0 : decide (x5_1 < (l0.length : Int)) = true := decide_eq_true c2
    clear c2
    replace H := Option.bind_eq_some_iff.mp H
    obtain ⟨⟨t176, t177⟩, A30, H⟩ := H
    replace H : (if t176 = 0 then (disk_Unwrap.j1 k1 l0 x4_1 x5_1 t176 t177 true) else (if 0 ≤ x5_1 then (disk_Unwrap.j1 k1 l0 x4_1 x5_1 t176 t177 ((rd l0 x5_1) != t176)) else (none))) = some (r1, r2) := H
    have A3 := Aside0.mk A30
    clear A30
    have HC4 := Aside0.mk H
    clear H
    obtain ⟨Ao5, co5, eo5⟩ := Kd.N_slice HO_4.out
    subst eo5
    go_upto_region 5 with (first | (go_at_call 39; (with_reducible refine (block_Want.calls k1 _ _ x4_1 t176 t177 _ ?side1 ?side2 A3.out).mono ?_); (case side1 => repeat (first | exact (Kd.N_reads' HO_4.out).2.2 | (with_reducible refine Kd.C_alloc ?_ _) | (with_reducible refine Kd.C_drewN ?_ _) | (with_reducible refine Kd.C_drew ?_))); (case side2 => exact (Kd.N_reads' HO_4.out).2.1); rintro e w6 ⟨rfl, hb⟩; have n0_ := Aside0.mk (Kd.N_below (by (with_reducible repeat (first | apply Kd.N_alloc | apply Kd.N_drewN | apply Kd.N_drew)); exact HO_4.out) hb); have n1_ := Aside0.mk (below_step (by repeat (first | (with_reducible first | exact HB.out | apply below_alloc | apply pw_below_drewN | apply below_drew1) | exact HB.out)) hb); clear HO_4; clear HB; have HO_4 := n0_; have HB := n1_; clear n0_ n1_; (try clear hb); (try clear hb2); (try clear hk); (try clear hi)))
    repeat (go_quiet (first | (go_at_call 39; (with_reducible refine (block_Want.calls k1 _ _ x4_1 t176 t177 _ ?side1 ?side2 A3.out).mono ?_); (case side1 => repeat (first | exact (Kd.N_reads' HO_4.out).2.2 | (with_reducible refine Kd.C_alloc ?_ _) | (with_reducible refine Kd.C_drewN ?_ _) | (with_reducible refine Kd.C_drew ?_))); (case side2 => exact (Kd.N_reads' HO_4.out).2.1); rintro e w6 ⟨rfl, hb⟩; have n0_ := Aside0.mk (Kd.N_below (by (with_reducible repeat (first | apply Kd.N_alloc | apply Kd.N_drewN | apply Kd.N_drew)); exact HO_4.out) hb); have n1_ := Aside0.mk (below_step (by repeat (first | (with_reducible first | exact HB.out | apply below_alloc | apply pw_below_drewN | apply below_drew1) | exact HB.out)) hb); clear HO_4; clear HB; have HO_4 := n0_; have HB := n1_; clear n0_ n1_; (try clear hb); (try clear hb2); (try clear hk); (try clear hi))); go_upto_region 5 with (first | (go_at_call 39; (with_reducible refine (block_Want.calls k1 _ _ x4_1 t176 t177 _ ?side1 ?side2 A3.out).mono ?_); (case side1 => repeat (first | exact (Kd.N_reads' HO_4.out).2.2 | (with_reducible refine Kd.C_alloc ?_ _) | (with_reducible refine Kd.C_drewN ?_ _) | (with_reducible refine Kd.C_drew ?_))); (case side2 => exact (Kd.N_reads' HO_4.out).2.1); rintro e w6 ⟨rfl, hb⟩; have n0_ := Aside0.mk (Kd.N_below (by (with_reducible repeat (first | apply Kd.N_alloc | apply Kd.N_drewN | apply Kd.N_drew)); exact HO_4.out) hb); have n1_ := Aside0.mk (below_step (by repeat (first | (with_reducible first | exact HB.out | apply below_alloc | apply pw_below_drewN | apply below_drew1) | exact HB.out)) hb); clear HO_4; clear HB; have HO_4 := n0_; have HB := n1_; clear n0_ n1_; (try clear hb); (try clear hb2); (try clear hk); (try clear hi))))
    (try simp only [Act.put, List.setIfInBounds_toArray, List.set_cons_zero, List.set_cons_succ])
    go_cut [27] (fun v27 wc => ∃ (kq : Nat) (x27_3 : Bool), v27 = .bool x27_3 ∧ Aside0 (disk_Unwrap.j1 kq l0 x4_1 x5_1 t176 t177 x27_3 = some (r1, r2)) ∧ Aside0 (kq ≤ k1) ∧ Aside0 (Kd.N k73 73 wc w.heap.size (fun k_ => (w.heap.size ≤ k_)) (.slice Ao5 x4_1.length co5) x4_1) ∧ Aside0 (Below w.heap.size w wc))
    case first =>
     have H := HC4.out
     clear HC4
     by_cases c7 : t176 = 0
     ·rw [if_pos c7] at H
      have c7b0 : (t176 == 0) = true := beq_iff_eq.mpr c7
      have c7b1 : (t176 != 0) = false := bne_eq_false_iff_eq.mpr c7
      clear c7
      (first | rw [c7b0] | (simp only [i64_w, i32_w]; rw [c7b0]) | skip)
      have H' := Aside0.mk H
      clear H
      go_wp2
      repeat (go_quiet (fail); try go_wp2)
      go_meet
      case rel => exact ⟨_, (true), (by first | rfl | (simp; done) | (simp [*]; done)), H', ⟨by have := HK1.out; first | omega | exact Nat.le_refl _⟩, ⟨by (with_reducible repeat (first | apply Kd.N_alloc | apply Kd.N_drewN | apply Kd.N_drew)); exact HO_4.out⟩, ⟨by repeat (first | (with_reducible first | exact HB.out | apply below_alloc | apply pw_below_drewN | apply below_drew1) | exact HB.out)⟩⟩
     ·rw [if_neg c7] at H
      have c7b0 : (t176 == 0) = false := beq_eq_false_iff_ne.mpr c7
      have c7b1 : (t176 != 0) = true := bne_iff_ne.mpr c7
      (first | rw [c7b0] | (simp only [i64_w, i32_w]; rw [c7b0]) | skip)
      by_cases c8 : 0 ≤ x5_1
      ·rw [if_pos c8] at H
       have c8b0 : decide (0 ≤ x5_1) = true := decide_eq_true c8
       clear c8
       have H' := Aside0.mk H
       clear H
       have p178 : 0 ≤ (x5_1 : Int) := of_decide_eq_true (by first | (with_reducible assumption) | assumption)
       have q178 : x5_1 < (l0.length : Int) := of_decide_eq_true (by first | (with_reducible assumption) | assumption)
       obtain ⟨ad178, e178, hx178_0⟩ := Kd.at_int HR0.out x5_1 p178 q178
       cases e178
       replace hx178_0 := (HB.out.cell (World.block_lt_of_cell? w _ hx178_0)).trans hx178_0
       replace p178 := eq_true p178
       replace q178 := eq_true q178
       go_wp2
       repeat (go_quiet (fail); try go_wp2)
       go_meet
       case rel => exact ⟨_, (((rd l0 x5_1) != t176)), (by first | rfl | (simp; done) | (simp [*]; done)), H', ⟨by have := HK1.out; first | omega | exact Nat.le_refl _⟩, ⟨by (with_reducible repeat (first | apply Kd.N_alloc | apply Kd.N_drewN | apply Kd.N_drew)); exact HO_4.out⟩, ⟨by repeat (first | (with_reducible first | exact HB.out | apply below_alloc | apply pw_below_drewN | apply below_drew1) | exact HB.out)⟩⟩
      ·rw [if_neg c8] at H
       exact absurd H (by simp)
    case rest =>
     clear HC4
     try clear p1
     try clear q1
     try clear hx1
     try clear c2
     try clear c2b0
     try clear p2
     try clear c7
     try clear c7b0
     try clear c7b1
     try clear c8
     try clear c8b0
     try clear hx178_0
     try clear p178
     try clear q178
     obtain ⟨kq, x27_3, rfl, HA, HJ3, HO_4, HB⟩ := hcut
     cases kq with
     | zero => exact absurd HA.out (by simp [disk_Unwrap.j1])
     | succ kj3 =>
      have H := HA.out
      clear HA
      simp only [disk_Unwrap.j1] at H
      by_cases c9 : x27_3 = true
      ·subst c9
       have H1 : (some (x4_1, 0)) = some (r1, r2) := by rw [if_pos rfl] at H; exact H
       clear H
       have H := H1
       clear H1
       simp only [Option.some.injEq, Prod.mk.injEq] at H
       obtain ⟨rfl, rfl⟩ := H
       go_wp2
       repeat (go_quiet (fail); try go_wp2)
       go_ret2
       exact ⟨_, by first | rfl | (simp [errW_none, errW_some] <;> rfl) | (simp [*, errW_none, errW_some] <;> rfl), by (with_reducible repeat (first | apply Kd.N_alloc | apply Kd.N_drewN | apply Kd.N_drew)); exact HO_4.out, by repeat (first | (with_reducible first | exact HB.out | apply below_alloc | apply pw_below_drewN | apply below_drew1) | exact HB.out)⟩
      ·replace c9 := Bool.eq_false_iff.mpr c9
       subst c9
       have H1 : (if (wrap64 ((wrap64 ((wrap64 (x5_1 + 1)) + t177)) + 2)) > (l0.length : Int) then (some (([] : List (S73)), 2)) else (if 0 ≤ x5_1 then (if x5_1 ≤ (wrap64 ((wrap64 (x5_1 + 1)) + t177)) then (if (wrap64 ((wrap64 (x5_1 + 1)) + t177)) ≤ (l0.length : Int) then ((seal_Short.f kj3 ((l0.take ((wrap64 ((wrap64 (x5_1 + 1)) + t177)) : Int).toNat).drop (x5_1 : Int).toNat)).bind fun t180 => (if 0 ≤ (wrap64 ((wrap64 (x5_1 + 1)) + t177)) then (if (wrap64 ((wrap64 (x5_1 + 1)) + t177)) < (l0.length : Int) then (if 0 ≤ (wrap64 ((wrap64 ((wrap64 (x5_1 + 1)) + t177)) + 1)) then (if (wrap64 ((wrap64 ((wrap64 (x5_1 + 1)) + t177)) + 1)) < (l0.length : Int) then (if t180 = (Go.bits .or .u16 (IntKind.u16.wrap (rd l0 (wrap64 ((wrap64 (x5_1 + 1)) + t177)))) (IntKind.u16.wrap ((IntKind.u16.wrap (rd l0 (wrap64 ((wrap64 ((wrap64 (x5_1 + 1)) + t177)) + 1)))) * 256))) then (if 0 ≤ (wrap64 (x5_1 + 1)) then (if (wrap64 (x5_1 + 1)) ≤ (wrap64 ((wrap64 (x5_1 + 1)) + t177)) then ((bytes_Clone.f ((l0.take ((wrap64 ((wrap64 (x5_1 + 1)) + t177)) : Int).toNat).drop ((wrap64 (x5_1 + 1)) : Int).toNat)).bind fun t184 => (if x4_1.length < 4398046511104 then (disk_Unwrap.l0 kj3 l0 (x4_1 ++ [(⟨t176, t184⟩ : S73)]) (wrap64 ((wrap64 ((wrap64 (x5_1 + 1)) + t177)) + 2))) else (none))) else (none)) else (none)) else (some (([] : List (S73)), 3))) else (none)) else (none)) else (none)) else (none))) else (none)) else (none)) else (none))) = some (r1, r2) := by rw [if_neg (show ¬ (false = true) by decide)] at H; exact H
       clear H
       have H := H1
       clear H1
       by_cases c10 : (wrap64 ((wrap64 ((wrap64 (x5_1 + 1)) + t177)) + 2)) > (l0.length : Int)
       ·rw [if_pos c10] at H
        have c10b0 : decide ((l0.length : Int) < (wrap64 ((wrap64 ((wrap64 (x5_1 + 1)) + t177)) + 2))) = true := decide_eq_true c10
        clear c10
        simp only [Option.some.injEq, Prod.mk.injEq] at H
        obtain ⟨rfl, rfl⟩ := H
        go_wp2
        repeat (go_quiet (fail); try go_wp2)
        go_ret2
        exact ⟨_, by first | rfl | (simp [errW_none, errW_some] <;> rfl) | (simp [*, errW_none, errW_some] <;> rfl), by first | exact Kd.S_nil _ _ _ _ _ | exact Kd.N_nil _ _ _ _ _ | exact Kd.V_nil _ _ _ _ _ | exact Kd.Q_nil _ _ _ _ _ | exact Kd.R_nil _ _ _ _ _, by repeat (first | (with_reducible first | exact HB.out | apply below_alloc | apply pw_below_drewN | apply below_drew1) | exact HB.out)⟩
       ·rw [if_neg c10] at H
        have c10b0 : decide ((l0.length : Int) < (wrap64 ((wrap64 ((wrap64 (x5_1 + 1)) + t177)) + 2))) = false := decide_eq_false c10
        clear c10
        by_cases c11 : 0 ≤ x5_1
        ·rw [if_pos c11] at H
         have c11b0 := eq_true c11
         have c11b1 : decide (0 ≤ x5_1) = true := decide_eq_true c11
         clear c11
         by_cases c12 : x5_1 ≤ (wrap64 ((wrap64 (x5_1 + 1)) + t177))
         ·rw [if_pos c12] at H
          have c12b0 := eq_true c12
          have c12b1 : decide (x5_1 ≤ (wrap64 ((wrap64 (x5_1 + 1)) + t177))) = true := decide_eq_true c12
          by_cases c13 : (wrap64 ((wrap64 (x5_1 + 1)) + t177)) ≤ (l0.length : Int)
          ·rw [if_pos c13] at H
           have c13b0 := eq_true c13
           have c13b1 : decide ((wrap64 ((wrap64 (x5_1 + 1)) + t177)) ≤ (l0.length : Int)) = true := decide_eq_true c13
           replace H := Option.bind_eq_some_iff.mp H
           obtain ⟨t180, A140, H⟩ := H
           replace H : (if 0 ≤ (wrap64 ((wrap64 (x5_1 + 1)) + t177)) then (if (wrap64 ((wrap64 (x5_1 + 1)) + t177)) < (l0.length : Int) then (if 0 ≤ (wrap64 ((wrap64 ((wrap64 (x5_1 + 1)) + t177)) + 1)) then (if (wrap64 ((wrap64 ((wrap64 (x5_1 + 1)) + t177)) + 1)) < (l0.length : Int) then (if t180 = (Go.bits .or .u16 (IntKind.u16.wrap (rd l0 (wrap64 ((wrap64 (x5_1 + 1)) + t177)))) (IntKind.u16.wrap ((IntKind.u16.wrap (rd l0 (wrap64 ((wrap64 ((wrap64 (x5_1 + 1)) + t177)) + 1)))) * 256))) then (if 0 ≤ (wrap64 (x5_1 + 1)) then (if (wrap64 (x5_1 + 1)) ≤ (wrap64 ((wrap64 (x5_1 + 1)) + t177)) then ((bytes_Clone.f ((l0.take ((wrap64 ((wrap64 (x5_1 + 1)) + t177)) : Int).toNat).drop ((wrap64 (x5_1 + 1)) : Int).toNat)).bind fun t184 => (if x4_1.length < 4398046511104 then (disk_Unwrap.l0 kj3 l0 (x4_1 ++ [(⟨t176, t184⟩ : S73)]) (wrap64 ((wrap64 ((wrap64 (x5_1 + 1)) + t177)) + 2))) else (none))) else (none)) else (none)) else (some (([] : List (S73)), 3))) else (none)) else (none)) else (none)) else (none)) = some (r1, r2) := H
           have A14 := Aside0.mk A140
           clear A140
           obtain ⟨ji15, hji15⟩ : ∃ j_ : Int, (wrap64 ((wrap64 (x5_1 + 1)) + t177)) = j_ := ⟨_, rfl⟩
           replace H : (if 0 ≤ (ji15) then (if (ji15) < (l0.length : Int) then (if 0 ≤ (wrap64 ((ji15) + 1)) then (if (wrap64 ((ji15) + 1)) < (l0.length : Int) then (if t180 = (Go.bits .or .u16 (IntKind.u16.wrap (rd l0 (ji15))) (IntKind.u16.wrap ((IntKind.u16.wrap (rd l0 (wrap64 ((ji15) + 1)))) * 256))) then (if 0 ≤ (wrap64 (x5_1 + 1)) then (if (wrap64 (x5_1 + 1)) ≤ (ji15) then ((bytes_Clone.f ((l0.take ((ji15) : Int).toNat).drop ((wrap64 (x5_1 + 1)) : Int).toNat)).bind fun t184 => (if x4_1.length < 4398046511104 then (disk_Unwrap.l0 kj3 l0 (x4_1 ++ [(⟨t176, t184⟩ : S73)]) (wrap64 ((ji15) + 2))) else (none))) else (none)) else (none)) else (some (([] : List (S73)), 3))) else (none)) else (none)) else (none)) else (none)) = some (r1, r2) := by first | (rw [hji15] at H; exact H) | (simp only [hji15] at H ⊢; exact H)
           (try rw [hji15] at c10b0)
           (try rw [hji15] at c12b0)
           (try rw [hji15] at c12b1)
           (try rw [hji15] at c12)
           (try rw [hji15] at c13b0)
           (try rw [hji15] at c13b1)
           (try rw [hji15] at c13)
           (try rw [hji15] at A14)
           have hji15w : (IntKind.i64.wrap ((wrap64 (x5_1 + 1)) + t177)) = ji15 := (i64_w _).trans hji15
           by_cases c16 : 0 ≤ (ji15)
           ·rw [if_pos c16] at H
            have c16b0 : decide (0 ≤ (ji15)) = true := decide_eq_true c16
            clear c16
            by_cases c17 : (ji15) < (l0.length : Int)
            ·rw [if_pos c17] at H
             have c17b0 : decide ((ji15) < (l0.length : Int)) = true := decide_eq_true c17
             clear c17
             obtain ⟨ji18, hji18⟩ : ∃ j_ : Int, (wrap64 ((ji15) + 1)) = j_ := ⟨_, rfl⟩
             replace H : (if 0 ≤ (ji18) then (if (ji18) < (l0.length : Int) then (if t180 = (Go.bits .or .u16 (IntKind.u16.wrap (rd l0 (ji15))) (IntKind.u16.wrap ((IntKind.u16.wrap (rd l0 (ji18))) * 256))) then (if 0 ≤ (wrap64 (x5_1 + 1)) then (if (wrap64 (x5_1 + 1)) ≤ (ji15) then ((bytes_Clone.f ((l0.take ((ji15) : Int).toNat).drop ((wrap64 (x5_1 + 1)) : Int).toNat)).bind fun t184 => (if x4_1.length < 4398046511104 then (disk_Unwrap.l0 kj3 l0 (x4_1 ++ [(⟨t176, t184⟩ : S73)]) (wrap64 ((ji15) + 2))) else (none))) else (none)) else (none)) else (some (([] : List (S73)), 3))) else (none)) else (none)) = some (r1, r2) := by first | (rw [hji18] at H; exact H) | (simp only [hji18] at H ⊢; exact H)
             (try rw [hji18] at A14)
             have hji18w : (IntKind.i64.wrap ((ji15) + 1)) = ji18 := (i64_w _).trans hji18
             by_cases c19 : 0 ≤ (ji18)
             ·rw [if_pos c19] at H
              have c19b0 : decide (0 ≤ (ji18)) = true := decide_eq_true c19
              clear c19
              by_cases c20 : (ji18) < (l0.length : Int)
              ·rw [if_pos c20] at H
               have c20b0 : decide ((ji18) < (l0.length : Int)) = true := decide_eq_true c20
               clear c20
               by_cases c21 : t180 = (Go.bits .or .u16 (IntKind.u16.wrap (rd l0 (ji15))) (IntKind.u16.wrap ((IntKind.u16.wrap (rd l0 (ji18))) * 256)))
               ·rw [if_pos c21] at H
                have c21b0 : (t180 == (Go.bits .or .u16 (IntKind.u16.wrap (rd l0 (ji15))) (IntKind.u16.wrap ((IntKind.u16.wrap (rd l0 (ji18))) * 256)))) = true := beq_iff_eq.mpr c21
                have c21b1 : (t180 != (Go.bits .or .u16 (IntKind.u16.wrap (rd l0 (ji15))) (IntKind.u16.wrap ((IntKind.u16.wrap (rd l0 (ji18))) * 256)))) = false := bne_eq_false_iff_eq.mpr c21
                clear c21
                obtain ⟨ji22, hji22⟩ : ∃ j_ : Int, (wrap64 (x5_1 + 1)) = j_ := ⟨_, rfl⟩
                replace H : (if 0 ≤ (ji22) then (if (ji22) ≤ (ji15) then ((bytes_Clone.f ((l0.take ((ji15) : Int).toNat).drop ((ji22) : Int).toNat)).bind fun t184 => (if x4_1.length < 4398046511104 then (disk_Unwrap.l0 kj3 l0 (x4_1 ++ [(⟨t176, t184⟩ : S73)]) (wrap64 ((ji15) + 2))) else (none))) else (none)) else (none)) = some (r1, r2) := by first | (rw [hji22] at H; exact H) | (simp only [hji22] at H ⊢; exact H)
                (try rw [hji22] at c10b0)
                (try rw [hji22] at c12b0)
                (try rw [hji22] at c12b1)
                (try rw [hji22] at c12)
                (try rw [hji22] at c13b0)
                (try rw [hji22] at c13b1)
                (try rw [hji22] at c13)
                (try rw [hji22] at A14)
                have hji22w : (IntKind.i64.wrap (x5_1 + 1)) = ji22 := (i64_w _).trans hji22
                have hjc_hji15_hji22 := hji15; rw [hji22] at hjc_hji15_hji22; have hjcw_hji15_hji22 := hji15w; rw [hji22] at hjcw_hji15_hji22
                by_cases c23 : 0 ≤ (ji22)
                ·rw [if_pos c23] at H
                 have c23b0 := eq_true c23
                 have c23b1 : decide (0 ≤ (ji22)) = true := decide_eq_true c23
                 clear c23
                 by_cases c24 : (ji22) ≤ (ji15)
                 ·rw [if_pos c24] at H
                  have c24b0 := eq_true c24
                  have c24b1 : decide ((ji22) ≤ (ji15)) = true := decide_eq_true c24
                  clear c24
                  have c25b0 := eq_true (of_decide_eq_true (by first | (with_reducible assumption) | assumption) : (ji15) ≤ (l0.length : Int))
                  replace H := Option.bind_eq_some_iff.mp H
                  obtain ⟨t184, A260, H⟩ := H
                  replace H : (if x4_1.length < 4398046511104 then (disk_Unwrap.l0 kj3 l0 (x4_1 ++ [(⟨t176, t184⟩ : S73)]) (wrap64 ((ji15) + 2))) else (none)) = some (r1, r2) := H
                  have A26 := Aside0.mk A260
                  clear A260
                  by_cases c27 : x4_1.length < 4398046511104
                  ·rw [if_pos c27] at H
                   have LMc27 := Aside0.mk c27
                   clear c27
                   obtain ⟨y187, hy187⟩ : ∃ y_ : List (S73), y_ = (x4_1 ++ [(⟨t176, t184⟩ : S73)]) := ⟨_, rfl⟩
                   replace H : (disk_Unwrap.l0 kj3 l0 y187 (wrap64 ((ji15) + 2))) = some (r1, r2) := by first | (rw [hy187]; with_reducible exact H) | (have H2_ := (Option.bind_some _ _).symm.trans H; rw [hy187]; with_reducible exact H2_) | (have H2_ := (Option.bind_some _ _).symm.trans H; with_reducible exact H2_) | with_reducible exact H | (rw [hy187]; exact H) | exact H
                   have Ny187 := Aside0.mk hy187
                   clear hy187
                   have H' := Aside0.mk H
                   clear H
                   obtain ⟨i028, hi028, _, hsz28, _⟩ := info_parts info5
                   obtain ⟨A28, hcut28, hA28, hC28⟩ := print_mid_of (P := Try.prog) (Value.int .u8) 0 22 5 .i64 .i64 Try.underlying22 hi028 hsz28 A0 c0 l0 x5_1 (ji15) (of_decide_eq_true (by first | (with_reducible assumption) | assumption)) (by first | omega | exact of_decide_eq_true (by first | (with_reducible assumption) | assumption)) (of_decide_eq_true (by first | (with_reducible assumption) | assumption)) HC0.out
                   have HR179 := Aside0.mk (Kd.C_of_reads (h1 := fun _ => rfl) (hA28 _ (Kd.reads_of_C HR0.out)))
                   have HC179 := Aside0.mk hC28
                   clear hA28 hC28 hi028 hsz28
                   go_wp2_with (first | (go_at_call 40; (try rw [show (ji15.toNat - x5_1.toNat) = ((l0.take (ji15 : Int).toNat).drop (x5_1 : Int).toNat).length from by rw [List.length_drop, List.length_take]; omega]); (with_reducible refine (seal_Short.calls kj3 _ _ ((l0.take (ji15 : Int).toNat).drop (x5_1 : Int).toNat) t180 _ ?side1 ?side2 A14.out).mono ?_); (case side1 => repeat (first | exact (Kd.C_below HR179.out HB.out) | (with_reducible refine Kd.C_alloc ?_ _) | (with_reducible refine Kd.C_drewN ?_ _) | (with_reducible refine Kd.C_drew ?_))); (case side2 => exact HC179.out); rintro e w' ⟨rfl, ⟨nd, rfl⟩⟩; (try first | exact ⟨rfl, _, World.drewN_drewN _ _ _⟩ | exact ⟨rfl, _, Eq.trans (World.drewN_drewN _ _ _) (congrArg (World.drewN _) (Nat.add_assoc _ _ _))⟩); have p181 : 0 ≤ ((ji15) : Int) := of_decide_eq_true (by first | (with_reducible assumption) | assumption); have q181 : (ji15) < (l0.length : Int) := of_decide_eq_true (by first | (with_reducible assumption) | assumption); obtain ⟨ad181, e181, hx181_0⟩ := Kd.at_int HR0.out (ji15) p181 q181; cases e181; replace hx181_0 := (HB.out.cell (World.block_lt_of_cell? w _ hx181_0)).trans hx181_0; replace p181 := eq_true p181; replace q181 := eq_true q181; have p182 : 0 ≤ ((ji18) : Int) := of_decide_eq_true (by first | (with_reducible assumption) | assumption); have q182 : (ji18) < (l0.length : Int) := of_decide_eq_true (by first | (with_reducible assumption) | assumption); obtain ⟨ad182, e182, hx182_0⟩ := Kd.at_int HR0.out (ji18) p182 q182; obtain rfl : ad181 = ad182 := (by injection e182); replace hx182_0 := (HB.out.cell (World.block_lt_of_cell? w _ hx182_0)).trans hx182_0; replace p182 := eq_true p182; replace q182 := eq_true q182; obtain ⟨i029, hi029, _, hsz29, _⟩ := info_parts info5; obtain ⟨A29, hcut29, hA29, hC29⟩ := print_mid_of (P := Try.prog) (Value.int .u8) 0 22 5 .i64 .i64 Try.underlying22 hi029 hsz29 (some ad181) c0 l0 (ji22) (ji15) (of_decide_eq_true (by first | (with_reducible assumption) | assumption)) (by first | omega | exact of_decide_eq_true (by first | (with_reducible assumption) | assumption)) (of_decide_eq_true (by first | (with_reducible assumption) | assumption)) HC0.out; have HR183 := Aside0.mk (Kd.C_of_reads (h1 := fun _ => rfl) (hA29 _ (Kd.reads_of_C HR0.out))); have HC183 := Aside0.mk hC29; clear hA29 hC29 hi029 hsz29) | (go_at_call 41; (try rw [show (ji15.toNat - ji22.toNat) = ((l0.take (ji15 : Int).toNat).drop (ji22 : Int).toNat).length from by rw [List.length_drop, List.length_take]; omega]); (with_reducible refine (bytes_Clone.calls _ _ ((l0.take (ji15 : Int).toNat).drop (ji22 : Int).toNat) t184 _ ?side1 ?side2 A26.out).mono ?_); (case side1 => repeat (first | exact (Kd.C_below HR183.out (by repeat (first | (with_reducible first | exact HB.out | apply below_alloc | apply pw_below_drewN | apply below_drew1) | exact HB.out))) | (with_reducible refine Kd.C_alloc ?_ _) | (with_reducible refine Kd.C_drewN ?_ _) | (with_reducible refine Kd.C_drew ?_))); (case side2 => exact HC183.out); rintro e w30 ⟨v185, rfl, ho0, hb⟩; have n0_ := Aside0.mk (Kd.N_below (by (with_reducible repeat (first | apply Kd.N_alloc | apply Kd.N_drewN | apply Kd.N_drew)); exact HO_4.out) hb); have n1_ := Aside0.mk (Kd.V_lower (Kd.V_mono (ok' := fun k_ => (w.heap.size ≤ k_) ∧ some k_ ≠ (.slice Ao5 x4_1.length co5 : Value).ownBlock) ho0 (fun k_ hk_ => ⟨(Nat.le_trans (below_size (by repeat (first | (with_reducible first | exact HB.out | apply below_alloc | apply pw_below_drewN | apply below_drew1) | exact HB.out))) hk_), (Kd.fresh' (Kd.N_lt (by (with_reducible repeat (first | apply Kd.N_alloc | apply Kd.N_drewN | apply Kd.N_drew)); exact HO_4.out)) k_ hk_)⟩)) (below_size (by repeat (first | (with_reducible first | exact HB.out | apply below_alloc | apply pw_below_drewN | apply below_drew1) | exact HB.out)))); have n2_ := Aside0.mk (below_step (by repeat (first | (with_reducible first | exact HB.out | apply below_alloc | apply pw_below_drewN | apply below_drew1) | exact HB.out)) hb); clear HO_4; clear HB; have HO_4 := n0_; have HO186 := n1_; have HB := n2_; clear n0_ n1_ n2_; (try clear hb); (try clear hb2); (try clear hk); (try clear hi); (try clear ho0); obtain ⟨Ao31, co31, eo31⟩ := Kd.V_slice HO186.out; subst eo31) | ((with_reducible refine gate_builtin (b := .append) (xs := #[.tmp 56, .tmp 65]) rfl ?_); at_builtin; refine Kd.N_append k73 (w0 := w) w.heap.size rfl (.tmp 56) (.tmp 65) 45 73 (.agg #[(.int .u8 0), (.slice none 0 0)]) 32 rfl Try.underlying45 info73 rfl (by decide) (by omega) (.slice Ao5 x4_1.length co5) x4_1 (⟨t176, t184⟩ : S73) [.int .u8 t176, .slice Ao31 t184.length co31] (fun k_ => (w.heap.size ≤ k_)) (fun k_ => ((fun k_ => (w.heap.size ≤ k_))) k_ ∧ some k_ ≠ (.slice Ao5 x4_1.length co5 : Value).ownBlock) rfl rfl ?aP (fun _ hk => hk) ?aF ?aO ?aB ?aS ?aL ?_; (case aP => exact (k73_mkF _ _ (⟨t176, t184⟩ : S73) (Kd.V_reads' (Kd.V_mono (ok' := (fun k_ => ((fun k_ => (w.heap.size ≤ k_))) k_ ∧ some k_ ≠ (.slice Ao5 x4_1.length co5 : Value).ownBlock)) (HO186.out) (fun k_ hk => ⟨hk.1, hk.2⟩))).2.1 (Kd.V_F (Kd.V_mono (ok' := (fun k_ => ((fun k_ => (w.heap.size ≤ k_))) k_ ∧ some k_ ≠ (.slice Ao5 x4_1.length co5 : Value).ownBlock)) (HO186.out) (fun k_ hk => ⟨hk.1, hk.2⟩))))); (case aB => exact (by repeat (first | (with_reducible first | exact HB.out | apply below_alloc | apply pw_below_drewN | apply below_drew1) | exact HB.out))); (case aF => exact (fun k_ hk => (Nat.le_trans (below_size (by repeat (first | (with_reducible first | exact HB.out | apply below_alloc | apply pw_below_drewN | apply below_drew1) | exact HB.out))) hk))); (case aO => exact (by (with_reducible repeat (first | apply Kd.N_alloc | apply Kd.N_drewN | apply Kd.N_drew)); exact HO_4.out)); (case aS => exact (below_size (by repeat (first | (with_reducible first | exact HB.out | apply below_alloc | apply pw_below_drewN | apply below_drew1) | exact HB.out)))); (case aL => have := LMc27.out; omega); intro v188 w32 ho hb hg hat; rw [← Ny187.out] at ho; have n0_ := Aside0.mk (Kd.V_afterv (ok := (fun k_ => (w.heap.size ≤ k_))) (by (with_reducible repeat (first | apply Kd.V_alloc | apply Kd.V_drewN | apply Kd.V_drew)); exact HO186.out) hg hat); have n1_ := Aside0.mk (hb); have n2_ := Aside0.mk (ho); clear HO186; clear HB; clear HO_4; have HO186 := n0_; have HB := n1_; have HO189 := n2_; clear n0_ n1_ n2_; clear ho hb hg hat))
                   try rw [hji15]
                   try rw [hji18]
                   try rw [hji22]
                   repeat (go_quiet (first | (go_at_call 40; (try rw [show (ji15.toNat - x5_1.toNat) = ((l0.take (ji15 : Int).toNat).drop (x5_1 : Int).toNat).length from by rw [List.length_drop, List.length_take]; omega]); (with_reducible refine (seal_Short.calls kj3 _ _ ((l0.take (ji15 : Int).toNat).drop (x5_1 : Int).toNat) t180 _ ?side1 ?side2 A14.out).mono ?_); (case side1 => repeat (first | exact (Kd.C_below HR179.out HB.out) | (with_reducible refine Kd.C_alloc ?_ _) | (with_reducible refine Kd.C_drewN ?_ _) | (with_reducible refine Kd.C_drew ?_))); (case side2 => exact HC179.out); rintro e w' ⟨rfl, ⟨nd, rfl⟩⟩; (try first | exact ⟨rfl, _, World.drewN_drewN _ _ _⟩ | exact ⟨rfl, _, Eq.trans (World.drewN_drewN _ _ _) (congrArg (World.drewN _) (Nat.add_assoc _ _ _))⟩); have p181 : 0 ≤ ((ji15) : Int) := of_decide_eq_true (by first | (with_reducible assumption) | assumption); have q181 : (ji15) < (l0.length : Int) := of_decide_eq_true (by first | (with_reducible assumption) | assumption); obtain ⟨ad181, e181, hx181_0⟩ := Kd.at_int HR0.out (ji15) p181 q181; cases e181; replace hx181_0 := (HB.out.cell (World.block_lt_of_cell? w _ hx181_0)).trans hx181_0; replace p181 := eq_true p181; replace q181 := eq_true q181; have p182 : 0 ≤ ((ji18) : Int) := of_decide_eq_true (by first | (with_reducible assumption) | assumption); have q182 : (ji18) < (l0.length : Int) := of_decide_eq_true (by first | (with_reducible assumption) | assumption); obtain ⟨ad182, e182, hx182_0⟩ := Kd.at_int HR0.out (ji18) p182 q182; obtain rfl : ad181 = ad182 := (by injection e182); replace hx182_0 := (HB.out.cell (World.block_lt_of_cell? w _ hx182_0)).trans hx182_0; replace p182 := eq_true p182; replace q182 := eq_true q182; obtain ⟨i029, hi029, _, hsz29, _⟩ := info_parts info5; obtain ⟨A29, hcut29, hA29, hC29⟩ := print_mid_of (P := Try.prog) (Value.int .u8) 0 22 5 .i64 .i64 Try.underlying22 hi029 hsz29 (some ad181) c0 l0 (ji22) (ji15) (of_decide_eq_true (by first | (with_reducible assumption) | assumption)) (by first | omega | exact of_decide_eq_true (by first | (with_reducible assumption) | assumption)) (of_decide_eq_true (by first | (with_reducible assumption) | assumption)) HC0.out; have HR183 := Aside0.mk (Kd.C_of_reads (h1 := fun _ => rfl) (hA29 _ (Kd.reads_of_C HR0.out))); have HC183 := Aside0.mk hC29; clear hA29 hC29 hi029 hsz29) | (go_at_call 41; (try rw [show (ji15.toNat - ji22.toNat) = ((l0.take (ji15 : Int).toNat).drop (ji22 : Int).toNat).length from by rw [List.length_drop, List.length_take]; omega]); (with_reducible refine (bytes_Clone.calls _ _ ((l0.take (ji15 : Int).toNat).drop (ji22 : Int).toNat) t184 _ ?side1 ?side2 A26.out).mono ?_); (case side1 => repeat (first | exact (Kd.C_below HR183.out (by repeat (first | (with_reducible first | exact HB.out | apply below_alloc | apply pw_below_drewN | apply below_drew1) | exact HB.out))) | (with_reducible refine Kd.C_alloc ?_ _) | (with_reducible refine Kd.C_drewN ?_ _) | (with_reducible refine Kd.C_drew ?_))); (case side2 => exact HC183.out); rintro e w30 ⟨v185, rfl, ho0, hb⟩; have n0_ := Aside0.mk (Kd.N_below (by (with_reducible repeat (first | apply Kd.N_alloc | apply Kd.N_drewN | apply Kd.N_drew)); exact HO_4.out) hb); have n1_ := Aside0.mk (Kd.V_lower (Kd.V_mono (ok' := fun k_ => (w.heap.size ≤ k_) ∧ some k_ ≠ (.slice Ao5 x4_1.length co5 : Value).ownBlock) ho0 (fun k_ hk_ => ⟨(Nat.le_trans (below_size (by repeat (first | (with_reducible first | exact HB.out | apply below_alloc | apply pw_below_drewN | apply below_drew1) | exact HB.out))) hk_), (Kd.fresh' (Kd.N_lt (by (with_reducible repeat (first | apply Kd.N_alloc | apply Kd.N_drewN | apply Kd.N_drew)); exact HO_4.out)) k_ hk_)⟩)) (below_size (by repeat (first | (with_reducible first | exact HB.out | apply below_alloc | apply pw_below_drewN | apply below_drew1) | exact HB.out)))); have n2_ := Aside0.mk (below_step (by repeat (first | (with_reducible first | exact HB.out | apply below_alloc | apply pw_below_drewN | apply below_drew1) | exact HB.out)) hb); clear HO_4; clear HB; have HO_4 := n0_; have HO186 := n1_; have HB := n2_; clear n0_ n1_ n2_; (try clear hb); (try clear hb2); (try clear hk); (try clear hi); (try clear ho0); obtain ⟨Ao31, co31, eo31⟩ := Kd.V_slice HO186.out; subst eo31) | ((with_reducible refine gate_builtin (b := .append) (xs := #[.tmp 56, .tmp 65]) rfl ?_); at_builtin; refine Kd.N_append k73 (w0 := w) w.heap.size rfl (.tmp 56) (.tmp 65) 45 73 (.agg #[(.int .u8 0), (.slice none 0 0)]) 32 rfl Try.underlying45 info73 rfl (by decide) (by omega) (.slice Ao5 x4_1.length co5) x4_1 (⟨t176, t184⟩ : S73) [.int .u8 t176, .slice Ao31 t184.length co31] (fun k_ => (w.heap.size ≤ k_)) (fun k_ => ((fun k_ => (w.heap.size ≤ k_))) k_ ∧ some k_ ≠ (.slice Ao5 x4_1.length co5 : Value).ownBlock) rfl rfl ?aP (fun _ hk => hk) ?aF ?aO ?aB ?aS ?aL ?_; (case aP => exact (k73_mkF _ _ (⟨t176, t184⟩ : S73) (Kd.V_reads' (Kd.V_mono (ok' := (fun k_ => ((fun k_ => (w.heap.size ≤ k_))) k_ ∧ some k_ ≠ (.slice Ao5 x4_1.length co5 : Value).ownBlock)) (HO186.out) (fun k_ hk => ⟨hk.1, hk.2⟩))).2.1 (Kd.V_F (Kd.V_mono (ok' := (fun k_ => ((fun k_ => (w.heap.size ≤ k_))) k_ ∧ some k_ ≠ (.slice Ao5 x4_1.length co5 : Value).ownBlock)) (HO186.out) (fun k_ hk => ⟨hk.1, hk.2⟩))))); (case aB => exact (by repeat (first | (with_reducible first | exact HB.out | apply below_alloc | apply pw_below_drewN | apply below_drew1) | exact HB.out))); (case aF => exact (fun k_ hk => (Nat.le_trans (below_size (by repeat (first | (with_reducible first | exact HB.out | apply below_alloc | apply pw_below_drewN | apply below_drew1) | exact HB.out))) hk))); (case aO => exact (by (with_reducible repeat (first | apply Kd.N_alloc | apply Kd.N_drewN | apply Kd.N_drew)); exact HO_4.out)); (case aS => exact (below_size (by repeat (first | (with_reducible first | exact HB.out | apply below_alloc | apply pw_below_drewN | apply below_drew1) | exact HB.out)))); (case aL => have := LMc27.out; omega); intro v188 w32 ho hb hg hat; rw [← Ny187.out] at ho; have n0_ := Aside0.mk (Kd.V_afterv (ok := (fun k_ => (w.heap.size ≤ k_))) (by (with_reducible repeat (first | apply Kd.V_alloc | apply Kd.V_drewN | apply Kd.V_drew)); exact HO186.out) hg hat); have n1_ := Aside0.mk (hb); have n2_ := Aside0.mk (ho); clear HO186; clear HB; clear HO_4; have HO186 := n0_; have HB := n1_; have HO189 := n2_; clear n0_ n1_ n2_; clear ho hb hg hat)); try go_wp2_with (first | (go_at_call 40; (try rw [show (ji15.toNat - x5_1.toNat) = ((l0.take (ji15 : Int).toNat).drop (x5_1 : Int).toNat).length from by rw [List.length_drop, List.length_take]; omega]); (with_reducible refine (seal_Short.calls kj3 _ _ ((l0.take (ji15 : Int).toNat).drop (x5_1 : Int).toNat) t180 _ ?side1 ?side2 A14.out).mono ?_); (case side1 => repeat (first | exact (Kd.C_below HR179.out HB.out) | (with_reducible refine Kd.C_alloc ?_ _) | (with_reducible refine Kd.C_drewN ?_ _) | (with_reducible refine Kd.C_drew ?_))); (case side2 => exact HC179.out); rintro e w' ⟨rfl, ⟨nd, rfl⟩⟩; (try first | exact ⟨rfl, _, World.drewN_drewN _ _ _⟩ | exact ⟨rfl, _, Eq.trans (World.drewN_drewN _ _ _) (congrArg (World.drewN _) (Nat.add_assoc _ _ _))⟩); have p181 : 0 ≤ ((ji15) : Int) := of_decide_eq_true (by first | (with_reducible assumption) | assumption); have q181 : (ji15) < (l0.length : Int) := of_decide_eq_true (by first | (with_reducible assumption) | assumption); obtain ⟨ad181, e181, hx181_0⟩ := Kd.at_int HR0.out (ji15) p181 q181; cases e181; replace hx181_0 := (HB.out.cell (World.block_lt_of_cell? w _ hx181_0)).trans hx181_0; replace p181 := eq_true p181; replace q181 := eq_true q181; have p182 : 0 ≤ ((ji18) : Int) := of_decide_eq_true (by first | (with_reducible assumption) | assumption); have q182 : (ji18) < (l0.length : Int) := of_decide_eq_true (by first | (with_reducible assumption) | assumption); obtain ⟨ad182, e182, hx182_0⟩ := Kd.at_int HR0.out (ji18) p182 q182; obtain rfl : ad181 = ad182 := (by injection e182); replace hx182_0 := (HB.out.cell (World.block_lt_of_cell? w _ hx182_0)).trans hx182_0; replace p182 := eq_true p182; replace q182 := eq_true q182; obtain ⟨i029, hi029, _, hsz29, _⟩ := info_parts info5; obtain ⟨A29, hcut29, hA29, hC29⟩ := print_mid_of (P := Try.prog) (Value.int .u8) 0 22 5 .i64 .i64 Try.underlying22 hi029 hsz29 (some ad181) c0 l0 (ji22) (ji15) (of_decide_eq_true (by first | (with_reducible assumption) | assumption)) (by first | omega | exact of_decide_eq_true (by first | (with_reducible assumption) | assumption)) (of_decide_eq_true (by first | (with_reducible assumption) | assumption)) HC0.out; have HR183 := Aside0.mk (Kd.C_of_reads (h1 := fun _ => rfl) (hA29 _ (Kd.reads_of_C HR0.out))); have HC183 := Aside0.mk hC29; clear hA29 hC29 hi029 hsz29) | (go_at_call 41; (try rw [show (ji15.toNat - ji22.toNat) = ((l0.take (ji15 : Int).toNat).drop (ji22 : Int).toNat).length from by rw [List.length_drop, List.length_take]; omega]); (with_reducible refine (bytes_Clone.calls _ _ ((l0.take (ji15 : Int).toNat).drop (ji22 : Int).toNat) t184 _ ?side1 ?side2 A26.out).mono ?_); (case side1 => repeat (first | exact (Kd.C_below HR183.out (by repeat (first | (with_reducible first | exact HB.out | apply below_alloc | apply pw_below_drewN | apply below_drew1) | exact HB.out))) | (with_reducible refine Kd.C_alloc ?_ _) | (with_reducible refine Kd.C_drewN ?_ _) | (with_reducible refine Kd.C_drew ?_))); (case side2 => exact HC183.out); rintro e w30 ⟨v185, rfl, ho0, hb⟩; have n0_ := Aside0.mk (Kd.N_below (by (with_reducible repeat (first | apply Kd.N_alloc | apply Kd.N_drewN | apply Kd.N_drew)); exact HO_4.out) hb); have n1_ := Aside0.mk (Kd.V_lower (Kd.V_mono (ok' := fun k_ => (w.heap.size ≤ k_) ∧ some k_ ≠ (.slice Ao5 x4_1.length co5 : Value).ownBlock) ho0 (fun k_ hk_ => ⟨(Nat.le_trans (below_size (by repeat (first | (with_reducible first | exact HB.out | apply below_alloc | apply pw_below_drewN | apply below_drew1) | exact HB.out))) hk_), (Kd.fresh' (Kd.N_lt (by (with_reducible repeat (first | apply Kd.N_alloc | apply Kd.N_drewN | apply Kd.N_drew)); exact HO_4.out)) k_ hk_)⟩)) (below_size (by repeat (first | (with_reducible first | exact HB.out | apply below_alloc | apply pw_below_drewN | apply below_drew1) | exact HB.out)))); have n2_ := Aside0.mk (below_step (by repeat (first | (with_reducible first | exact HB.out | apply below_alloc | apply pw_below_drewN | apply below_drew1) | exact HB.out)) hb); clear HO_4; clear HB; have HO_4 := n0_; have HO186 := n1_; have HB := n2_; clear n0_ n1_ n2_; (try clear hb); (try clear hb2); (try clear hk); (try clear hi); (try clear ho0); obtain ⟨Ao31, co31, eo31⟩ := Kd.V_slice HO186.out; subst eo31) | ((with_reducible refine gate_builtin (b := .append) (xs := #[.tmp 56, .tmp 65]) rfl ?_); at_builtin; refine Kd.N_append k73 (w0 := w) w.heap.size rfl (.tmp 56) (.tmp 65) 45 73 (.agg #[(.int .u8 0), (.slice none 0 0)]) 32 rfl Try.underlying45 info73 rfl (by decide) (by omega) (.slice Ao5 x4_1.length co5) x4_1 (⟨t176, t184⟩ : S73) [.int .u8 t176, .slice Ao31 t184.length co31] (fun k_ => (w.heap.size ≤ k_)) (fun k_ => ((fun k_ => (w.heap.size ≤ k_))) k_ ∧ some k_ ≠ (.slice Ao5 x4_1.length co5 : Value).ownBlock) rfl rfl ?aP (fun _ hk => hk) ?aF ?aO ?aB ?aS ?aL ?_; (case aP => exact (k73_mkF _ _ (⟨t176, t184⟩ : S73) (Kd.V_reads' (Kd.V_mono (ok' := (fun k_ => ((fun k_ => (w.heap.size ≤ k_))) k_ ∧ some k_ ≠ (.slice Ao5 x4_1.length co5 : Value).ownBlock)) (HO186.out) (fun k_ hk => ⟨hk.1, hk.2⟩))).2.1 (Kd.V_F (Kd.V_mono (ok' := (fun k_ => ((fun k_ => (w.heap.size ≤ k_))) k_ ∧ some k_ ≠ (.slice Ao5 x4_1.length co5 : Value).ownBlock)) (HO186.out) (fun k_ hk => ⟨hk.1, hk.2⟩))))); (case aB => exact (by repeat (first | (with_reducible first | exact HB.out | apply below_alloc | apply pw_below_drewN | apply below_drew1) | exact HB.out))); (case aF => exact (fun k_ hk => (Nat.le_trans (below_size (by repeat (first | (with_reducible first | exact HB.out | apply below_alloc | apply pw_below_drewN | apply below_drew1) | exact HB.out))) hk))); (case aO => exact (by (with_reducible repeat (first | apply Kd.N_alloc | apply Kd.N_drewN | apply Kd.N_drew)); exact HO_4.out)); (case aS => exact (below_size (by repeat (first | (with_reducible first | exact HB.out | apply below_alloc | apply pw_below_drewN | apply below_drew1) | exact HB.out)))); (case aL => have := LMc27.out; omega); intro v188 w32 ho hb hg hat; rw [← Ny187.out] at ho; have n0_ := Aside0.mk (Kd.V_afterv (ok := (fun k_ => (w.heap.size ≤ k_))) (by (with_reducible repeat (first | apply Kd.V_alloc | apply Kd.V_drewN | apply Kd.V_drew)); exact HO186.out) hg hat); have n1_ := Aside0.mk (hb); have n2_ := Aside0.mk (ho); clear HO186; clear HB; clear HO_4; have HO186 := n0_; have HB := n1_; have HO189 := n2_; clear n0_ n1_ n2_; clear ho hb hg hat)))
                   go_roundg kj3
                   case measure => have := HK1.out; have := HJ3.out; omega
                   case rel => exact ⟨(y187), (wrap64 ((ji15) + 2)), (by first | rfl | (simp; done) | (simp only [← hji15] <;> (first | rfl | simp)) | (simp [*]; done)), H', ⟨by have := HK1.out; have := HJ3.out; omega⟩, ⟨by (with_reducible repeat (first | apply Kd.N_alloc | apply Kd.N_drewN | apply Kd.N_drew)); exact HO189.out⟩, ⟨by repeat (first | (with_reducible first | exact HB.out | apply below_alloc | apply pw_below_drewN | apply below_drew1) | exact HB.out)⟩⟩
                  ·rw [if_neg c27] at H
                   exact absurd H (by simp)
                 ·rw [if_neg c24] at H
                  exact absurd H (by simp)
                ·rw [if_neg c23] at H
                 exact absurd H (by simp)
               ·rw [if_neg c21] at H
                have c21b0 : (t180 == (Go.bits .or .u16 (IntKind.u16.wrap (rd l0 (ji15))) (IntKind.u16.wrap ((IntKind.u16.wrap (rd l0 (ji18))) * 256)))) = false := beq_eq_false_iff_ne.mpr c21
                have c21b1 : (t180 != (Go.bits .or .u16 (IntKind.u16.wrap (rd l0 (ji15))) (IntKind.u16.wrap ((IntKind.u16.wrap (rd l0 (ji18))) * 256)))) = true := bne_iff_ne.mpr c21
                simp only [Option.some.injEq, Prod.mk.injEq] at H
                obtain ⟨rfl, rfl⟩ := H
                obtain ⟨i033, hi033, _, hsz33, _⟩ := info_parts info5
                try clear hcut28
                obtain ⟨A33, hcut33, hA33, hC33⟩ := print_mid_of (P := Try.prog) (Value.int .u8) 0 22 5 .i64 .i64 Try.underlying22 hi033 hsz33 A0 c0 l0 x5_1 (ji15) (of_decide_eq_true (by first | (with_reducible assumption) | assumption)) (by first | omega | exact of_decide_eq_true (by first | (with_reducible assumption) | assumption)) (of_decide_eq_true (by first | (with_reducible assumption) | assumption)) HC0.out
                have HR179 := Aside0.mk (Kd.C_of_reads (h1 := fun _ => rfl) (hA33 _ (Kd.reads_of_C HR0.out)))
                have HC179 := Aside0.mk hC33
                clear hA33 hC33 hi033 hsz33
                go_wp2_with (first | (go_at_call 40; (try rw [show (ji15.toNat - x5_1.toNat) = ((l0.take (ji15 : Int).toNat).drop (x5_1 : Int).toNat).length from by rw [List.length_drop, List.length_take]; omega]); (with_reducible refine (seal_Short.calls kj3 _ _ ((l0.take (ji15 : Int).toNat).drop (x5_1 : Int).toNat) t180 _ ?side1 ?side2 A14.out).mono ?_); (case side1 => repeat (first | exact (Kd.C_below HR179.out HB.out) | (with_reducible refine Kd.C_alloc ?_ _) | (with_reducible refine Kd.C_drewN ?_ _) | (with_reducible refine Kd.C_drew ?_))); (case side2 => exact HC179.out); rintro e w' ⟨rfl, ⟨nd, rfl⟩⟩; (try first | exact ⟨rfl, _, World.drewN_drewN _ _ _⟩ | exact ⟨rfl, _, Eq.trans (World.drewN_drewN _ _ _) (congrArg (World.drewN _) (Nat.add_assoc _ _ _))⟩); have p181 : 0 ≤ ((ji15) : Int) := of_decide_eq_true (by first | (with_reducible assumption) | assumption); have q181 : (ji15) < (l0.length : Int) := of_decide_eq_true (by first | (with_reducible assumption) | assumption); obtain ⟨ad181, e181, hx181_0⟩ := Kd.at_int HR0.out (ji15) p181 q181; cases e181; replace hx181_0 := (HB.out.cell (World.block_lt_of_cell? w _ hx181_0)).trans hx181_0; replace p181 := eq_true p181; replace q181 := eq_true q181; have p182 : 0 ≤ ((ji18) : Int) := of_decide_eq_true (by first | (with_reducible assumption) | assumption); have q182 : (ji18) < (l0.length : Int) := of_decide_eq_true (by first | (with_reducible assumption) | assumption); obtain ⟨ad182, e182, hx182_0⟩ := Kd.at_int HR0.out (ji18) p182 q182; obtain rfl : ad181 = ad182 := (by injection e182); replace hx182_0 := (HB.out.cell (World.block_lt_of_cell? w _ hx182_0)).trans hx182_0; replace p182 := eq_true p182; replace q182 := eq_true q182))
                try rw [hji15]
                try rw [hji18]
                repeat (go_quiet (first | (go_at_call 40; (try rw [show (ji15.toNat - x5_1.toNat) = ((l0.take (ji15 : Int).toNat).drop (x5_1 : Int).toNat).length from by rw [List.length_drop, List.length_take]; omega]); (with_reducible refine (seal_Short.calls kj3 _ _ ((l0.take (ji15 : Int).toNat).drop (x5_1 : Int).toNat) t180 _ ?side1 ?side2 A14.out).mono ?_); (case side1 => repeat (first | exact (Kd.C_below HR179.out HB.out) | (with_reducible refine Kd.C_alloc ?_ _) | (with_reducible refine Kd.C_drewN ?_ _) | (with_reducible refine Kd.C_drew ?_))); (case side2 => exact HC179.out); rintro e w' ⟨rfl, ⟨nd, rfl⟩⟩; (try first | exact ⟨rfl, _, World.drewN_drewN _ _ _⟩ | exact ⟨rfl, _, Eq.trans (World.drewN_drewN _ _ _) (congrArg (World.drewN _) (Nat.add_assoc _ _ _))⟩); have p181 : 0 ≤ ((ji15) : Int) := of_decide_eq_true (by first | (with_reducible assumption) | assumption); have q181 : (ji15) < (l0.length : Int) := of_decide_eq_true (by first | (with_reducible assumption) | assumption); obtain ⟨ad181, e181, hx181_0⟩ := Kd.at_int HR0.out (ji15) p181 q181; cases e181; replace hx181_0 := (HB.out.cell (World.block_lt_of_cell? w _ hx181_0)).trans hx181_0; replace p181 := eq_true p181; replace q181 := eq_true q181; have p182 : 0 ≤ ((ji18) : Int) := of_decide_eq_true (by first | (with_reducible assumption) | assumption); have q182 : (ji18) < (l0.length : Int) := of_decide_eq_true (by first | (with_reducible assumption) | assumption); obtain ⟨ad182, e182, hx182_0⟩ := Kd.at_int HR0.out (ji18) p182 q182; obtain rfl : ad181 = ad182 := (by injection e182); replace hx182_0 := (HB.out.cell (World.block_lt_of_cell? w _ hx182_0)).trans hx182_0; replace p182 := eq_true p182; replace q182 := eq_true q182)); try go_wp2_with (first | (go_at_call 40; (try rw [show (ji15.toNat - x5_1.toNat) = ((l0.take (ji15 : Int).toNat).drop (x5_1 : Int).toNat).length from by rw [List.length_drop, List.length_take]; omega]); (with_reducible refine (seal_Short.calls kj3 _ _ ((l0.take (ji15 : Int).toNat).drop (x5_1 : Int).toNat) t180 _ ?side1 ?side2 A14.out).mono ?_); (case side1 => repeat (first | exact (Kd.C_below HR179.out HB.out) | (with_reducible refine Kd.C_alloc ?_ _) | (with_reducible refine Kd.C_drewN ?_ _) | (with_reducible refine Kd.C_drew ?_))); (case side2 => exact HC179.out); rintro e w' ⟨rfl, ⟨nd, rfl⟩⟩; (try first | exact ⟨rfl, _, World.drewN_drewN _ _ _⟩ | exact ⟨rfl, _, Eq.trans (World.drewN_drewN _ _ _) (congrArg (World.drewN _) (Nat.add_assoc _ _ _))⟩); have p181 : 0 ≤ ((ji15) : Int) := of_decide_eq_true (by first | (with_reducible assumption) | assumption); have q181 : (ji15) < (l0.length : Int) := of_decide_eq_true (by first | (with_reducible assumption) | assumption); obtain ⟨ad181, e181, hx181_0⟩ := Kd.at_int HR0.out (ji15) p181 q181; cases e181; replace hx181_0 := (HB.out.cell (World.block_lt_of_cell? w _ hx181_0)).trans hx181_0; replace p181 := eq_true p181; replace q181 := eq_true q181; have p182 : 0 ≤ ((ji18) : Int) := of_decide_eq_true (by first | (with_reducible assumption) | assumption); have q182 : (ji18) < (l0.length : Int) := of_decide_eq_true (by first | (with_reducible assumption) | assumption); obtain ⟨ad182, e182, hx182_0⟩ := Kd.at_int HR0.out (ji18) p182 q182; obtain rfl : ad181 = ad182 := (by injection e182); replace hx182_0 := (HB.out.cell (World.block_lt_of_cell? w _ hx182_0)).trans hx182_0; replace p182 := eq_true p182; replace q182 := eq_true q182)))
                go_ret2
                exact ⟨_, by first | rfl | (simp [errW_none, errW_some] <;> rfl) | (simp only [← hji15, ← hji18]; first | rfl | (simp [errW_none, errW_some] <;> rfl)) | (simp [*, errW_none, errW_some] <;> rfl), by first | exact Kd.S_nil _ _ _ _ _ | exact Kd.N_nil _ _ _ _ _ | exact Kd.V_nil _ _ _ _ _ | exact Kd.Q_nil _ _ _ _ _ | exact Kd.R_nil _ _ _ _ _, by repeat (first | (with_reducible first | exact HB.out | apply below_alloc | apply pw_below_drewN | apply below_drew1) | exact HB.out)⟩
              ·rw [if_neg c20] at H
               exact absurd H (by simp)
             ·rw [if_neg c19] at H
              exact absurd H (by simp)
            ·rw [if_neg c17] at H
             exact absurd H (by simp)
           ·rw [if_neg c16] at H
            exact absurd H (by simp)
          ·rw [if_neg c13] at H
           exact absurd H (by simp)
         ·rw [if_neg c12] at H
          exact absurd H (by simp)
        ·rw [if_neg c11] at H
         exact absurd H (by simp)
   ·rw [if_neg c2] at H
    have c2b0 : decide (x5_1 < (l0.length : Int)) = false := decide_eq_false c2
    clear c2
    simp only [Option.some.injEq, Prod.mk.injEq] at H
    obtain ⟨rfl, rfl⟩ := H
    go_wp2
    repeat (go_quiet (fail); try go_wp2)
    go_ret2
    exact ⟨_, by first | rfl | (simp [errW_none, errW_some] <;> rfl) | (simp [*, errW_none, errW_some] <;> rfl), by (with_reducible repeat (first | apply Kd.N_alloc | apply Kd.N_drewN | apply Kd.N_drew)); exact HO_4.out, by repeat (first | (with_reducible first | exact HB.out | apply below_alloc | apply pw_below_drewN | apply below_drew1) | exact HB.out)⟩

-- NOT PRINTED: function 47 (block_Block_47)

/-! ### block_Same: function 25, by hand -/
def block_Same.eqB (x y : S73) : Bool := (x.f0 == y.f0) && (x.f1 == y.f1)
def block_Same.sm : List (S73) → List (S73) → Bool
 | [], [] => true
 | x :: xs, y :: ys => block_Same.eqB x y && block_Same.sm xs ys
 | _, _ => false
def block_Same.fine (l : List (S73)) : Prop := ∀ x ∈ l, ∀ b ∈ x.f1, 0 ≤ b ∧ b < 256
instance (l : List (S73)) : Decidable (block_Same.fine l) := by unfold block_Same.fine; exact inferInstance
def block_Same.f (l0 l1 : List (S73)) : Option Bool := if block_Same.fine l0 ∧ block_Same.fine l1 then some (block_Same.sm l0 l1) else none
theorem block_Same.bytes_eq (xs ys : List Int) (hx : ∀ b ∈ xs, 0 ≤ b ∧ b < 256) (hy : ∀ b ∈ ys, 0 ≤ b ∧ b < 256) : (Lib.bytesOf xs == Lib.bytesOf ys) = (xs == ys) := by
 rw [Bool.eq_iff_iff, beq_iff_eq, beq_iff_eq]
 refine ⟨fun h => ?_, fun h => by rw [h]⟩
 have hl : xs.length = ys.length := by have := congrArg List.length h; simpa [Lib.bytesOf] using this
 apply List.ext_getElem hl
 intro i h1 h2
 have e : (Lib.bytesOf xs)[i]? = (Lib.bytesOf ys)[i]? := by rw [h]
 simp only [Lib.bytesOf, List.getElem?_map, List.getElem?_eq_getElem h1, List.getElem?_eq_getElem h2, Option.map_some, Option.some.injEq] at e
 have e2 := congrArg UInt8.toNat e
 have bx := hx _ (List.getElem_mem h1)
 have by_ := hy _ (List.getElem_mem h2)
 rw [UInt8.toNat_ofNat_of_lt' (by simp [UInt8.size]; omega), UInt8.toNat_ofNat_of_lt' (by simp [UInt8.size]; omega)] at e2
 omega
theorem block_Same.bytes_in {w : World} {A : Option Addr} {xs : List Int} (h : Kd.C (Kd.int .u8) w A xs.length xs) : Lib.BytesIn w A xs.length xs := by
 cases A with
 | none =>
  intro hn
  obtain ⟨ad, he, _⟩ := Kd.at_int h 0 (by omega) (by omega)
  cases he
 | some a =>
  refine Lib.BytesIn.of_cells (fun i hi => ?_)
  obtain ⟨ad, he, hc⟩ := Kd.at_int h (i : Int) (by omega) (by omega)
  cases he
  simpa [rd] using hc
set_option maxHeartbeats 400000 in
theorem block_Same.one (x y : S73) (A0 A1 : Option Addr) (c0 c1 : Nat) (w : World) (hx : ∀ b ∈ x.f1, 0 ≤ b ∧ b < 256) (hy : ∀ b ∈ y.f1, 0 ≤ b ∧ b < 256) (h0 : Kd.C (Kd.int .u8) w A0 x.f1.length x.f1) (h1 : Kd.C (Kd.int .u8) w A1 y.f1.length y.f1) :
  Calls Try.prog 48 #[.agg #[.int .u8 x.f0, .slice A0 x.f1.length c0], .agg #[.int .u8 y.f0, .slice A1 y.f1.length c1]] w fun e w' => e = .returned (.bool (block_Same.eqB x y)) ∧ Below w.heap.size w w' := by
 obtain ⟨k, d⟩ := x
 obtain ⟨k2, d2⟩ := y
 unfold block_Same.eqB
 dsimp only at *
 have H0 := Aside0.mk h0
 have H1 := Aside0.mk h1
 have HE := Aside0.mk (block_Same.bytes_eq d d2 hx hy)
 clear hx hy h0 h1
 by_cases hk : k = k2
 ·have t1 : (k == k2) = true := by simpa using hk
  rw [t1, Bool.true_and]
  clear hk
  go_enter Try.func48, Try.ntmps48
  go_wp2_with (go_at_call 32; refine (Try.bytes_Equal_all A0 A1 d.length c0 d2.length c1 d d2 _ rfl rfl (block_Same.bytes_in (Kd.C_below H0.out (below_alloc (below_alloc (Below.refl _ _) _) _))) (block_Same.bytes_in (Kd.C_below H1.out (below_alloc (below_alloc (Below.refl _ _) _) _)))).mono ?_; rintro e w' ⟨rfl, rfl⟩)
  go_ret
  exact ⟨congrArg (fun b => Ending.returned (.bool b)) HE.out, below_alloc (below_alloc (Below.refl _ _) _) _⟩
 ·have t1 : (k == k2) = false := by simpa using hk
  rw [t1, Bool.false_and]
  clear hk
  go_enter Try.func48, Try.ntmps48
  go_wp2
  go_ret
  exact ⟨rfl, below_alloc (below_alloc (Below.refl _ _) _) _⟩
theorem block_Same.sm_len : ∀ (l0 l1 : List (S73)), l0.length ≠ l1.length → block_Same.sm l0 l1 = false
 | [], [], h => absurd rfl h
 | [], _ :: _, _ => rfl
 | _ :: _, [], _ => rfl
 | x :: xs, y :: ys, h => by
  unfold block_Same.sm
  rw [block_Same.sm_len xs ys (fun e => h (by simp [e])), Bool.and_false]
theorem block_Same.sm_at (z : S73) : ∀ (l0 l1 : List (S73)) (i : Nat), i < l0.length → i < l1.length → block_Same.sm (l0.take (i + 1)) (l1.take (i + 1)) = (block_Same.sm (l0.take i) (l1.take i) && block_Same.eqB (l0.getD i z) (l1.getD i z))
 | [], _, _, h, _ => absurd h (Nat.not_lt_zero _)
 | _ :: _, [], _, _, h => absurd h (Nat.not_lt_zero _)
 | x :: xs, y :: ys, 0, _, _ => by simp only [List.take_succ_cons, List.take_zero, block_Same.sm, List.getD_cons_zero, Bool.and_true, Bool.true_and]
 | x :: xs, y :: ys, i + 1, h0, h1 => by
  simp only [List.take_succ_cons, block_Same.sm, List.getD_cons_succ]
  have ih := block_Same.sm_at z xs ys i (by simpa using h0) (by simpa using h1)
  rw [ih, Bool.and_assoc]
theorem block_Same.sm_no (z : S73) : ∀ (l0 l1 : List (S73)) (i : Nat), i < l0.length → i < l1.length → block_Same.eqB (l0.getD i z) (l1.getD i z) = false → block_Same.sm l0 l1 = false
 | [], _, _, h, _, _ => absurd h (Nat.not_lt_zero _)
 | _ :: _, [], _, _, h, _ => absurd h (Nat.not_lt_zero _)
 | x :: xs, y :: ys, 0, _, _, h => by simp only [List.getD_cons_zero] at h; rw [block_Same.sm, h, Bool.false_and]
 | x :: xs, y :: ys, i + 1, h0, h1, h => by
  simp only [List.getD_cons_succ] at h
  rw [block_Same.sm, block_Same.sm_no z xs ys i (by simpa using h0) (by simpa using h1) h, Bool.and_false]
theorem block_Same.fine_at {l : List (S73)} (h : block_Same.fine l) (i : Int) : ∀ b ∈ (rd_T73 l i).f1, 0 ≤ b ∧ b < 256 := by
 unfold rd_T73
 rw [List.getD_eq_getElem?_getD]
 cases hx : l[i.toNat]? with
 | none => intro b hb; cases hb
 | some x => exact h x (List.mem_of_getElem? hx)
set_option maxHeartbeats 400000 in
set_option maxRecDepth 100000 in
theorem block_Same.func (A0 : Option Addr) (c0 : Nat) (l0 : List (S73)) (A1 : Option Addr) (c1 : Nat) (l1 : List (S73)) (w : World) (hr0 : Kd.C k73 w A0 l0.length l0) (hr1 : Kd.C k73 w A1 l1.length l1) (hf0 : block_Same.fine l0) (hf1 : block_Same.fine l1) :
  Calls Try.prog 47 #[.slice A0 l0.length c0, .slice A1 l1.length c1, .func (.func 48) #[] #[]] w fun e w' => e = .returned (.bool (block_Same.sm l0 l1)) ∧ Below w.heap.size w w' := by
 by_cases hl : l0.length = l1.length
 ·have H0 := Aside0.mk hr0
  have H1 := Aside0.mk hr1
  have HF := Aside0.mk (And.intro hf0 hf1)
  have HL := Aside0.mk hl
  have hm0 := hr0.2.1
  have t1 : ((l0.length : Int) != (l1.length : Int)) = false := by rw [bne_eq_false_iff_eq]; omega
  have HSM := Aside0.mk (block_Same.sm_at z73 l0 l1)
  have HNO := Aside0.mk (block_Same.sm_no z73 l0 l1)
  clear hr0 hr1 hf0 hf1 hl
  go_enter Try.func47, Try.ntmps47
  go_wp2
  go_loopg [17] l0.length (fun kq v17 w' => ∃ i : Int, v17 = .int .i64 i ∧ Aside0 (0 ≤ i ∧ i + kq = l0.length) ∧ Aside0 (block_Same.sm (l0.take i.toNat) (l1.take i.toNat) = true) ∧ Aside0 (Below w.heap.size w w'))
  case atStart => exact ⟨0, rfl, ⟨by omega⟩, ⟨rfl⟩, ⟨Below.refl _ _⟩⟩
  case round =>
   obtain ⟨i, rfl, HI, HS, HB⟩ := hrel
   by_cases hi : i < (l0.length : Int)
   ·have hI := HI.out
    have hLL := HL.out
    obtain ⟨ad0, B0, d0, e0, x00, x01, xl0, xc0⟩ := at_T73 H0.out i (by omega) hi
    obtain ⟨ad1, B1, d1, e1, x10, x11, xl1, xc1⟩ := at_T73 H1.out i (by omega) (by omega)
    subst e0 e1
    replace x00 := pw_cell_below HB.out x00
    replace x01 := pw_cell_below HB.out x01
    replace x10 := pw_cell_below HB.out x10
    replace x11 := pw_cell_below HB.out x11
    have K0 := Aside0.mk (Kd.C_below xc0 HB.out)
    have K1 := Aside0.mk (Kd.C_below xc1 HB.out)
    have y10 := pw_cell_below (below_alloc (Below.refl wr.heap.size wr) (.cells #[Value.int .u8 (rd_T73 l0 i).f0, .slice B0 (rd_T73 l0 i).f1.length d0] 73)) x10
    have y11 := pw_cell_below (below_alloc (Below.refl wr.heap.size wr) (.cells #[Value.int .u8 (rd_T73 l0 i).f0, .slice B0 (rd_T73 l0 i).f1.length d0] 73)) x11
    have q0 := eq_true (show 0 ≤ i by omega)
    have q1 := eq_true hi
    have q2 := eq_true (show i < (l1.length : Int) by omega)
    have s1 : decide (i < (l0.length : Int)) = true := decide_eq_true hi
    have WW := Aside0.mk (show wrap64 (i + 1) = i + 1 by unfold wrap64; omega)
    have hN : i.toNat < l0.length ∧ i.toNat < l1.length := by omega
    have HN := Aside0.mk hN
    have hE : block_Same.sm (l0.take (i + 1).toNat) (l1.take (i + 1).toNat) = block_Same.eqB (rd_T73 l0 i) (rd_T73 l1 i) := by
     rw [show (i + 1).toNat = i.toNat + 1 by omega, HSM.out i.toNat hN.1 hN.2, HS.out, Bool.true_and]; rfl
    have HE := Aside0.mk hE
    have HI2 := Aside0.mk (show (0 ≤ i + 1 ∧ (i + 1) + ((gk - 1 : Nat) : Int) = l0.length) ∧ gk - 1 < gk by omega)
    have FN := Aside0.mk (And.intro (block_Same.fine_at HF.out.1 i) (block_Same.fine_at HF.out.2 i))
    clear xl0 xl1 xc0 xc1 hE hI hLL hN hi
    go_wp2_with fail
    have hbb := below_alloc (below_alloc (Below.refl wr.heap.size wr) (.cells #[Value.int .u8 (rd_T73 l0 i).f0, .slice B0 (rd_T73 l0 i).f1.length d0] 73)) (.cells #[Value.int .u8 (rd_T73 l1 i).f0, .slice B1 (rd_T73 l1 i).f1.length d1] 73)
    have HBB := Aside0.mk (HB.out.trans (hbb.mono (below_size HB.out)))
    refine (block_Same.one (rd_T73 l0 i) (rd_T73 l1 i) B0 B1 d0 d1 _ FN.out.1 FN.out.2 (Kd.C_below K0.out hbb) (Kd.C_below K1.out hbb)).mono ?_
    clear hbb x00 x01 x10 x11 y10 y11
    rintro e w2 ⟨rfl, hb⟩
    have HB2 := Aside0.mk (HBB.out.trans (hb.mono (below_size HBB.out)))
    clear hb
    cases hq : block_Same.eqB (rd_T73 l0 i) (rd_T73 l1 i) with
    | true =>
     rw [hq] at HE
     clear hq
     go_wp2_with fail
     go_roundg (gk - 1)
     case measure => have := HI2.out.2; omega
     case rel => exact ⟨i + 1, by rw [WW.out], ⟨HI2.out.1⟩, HE, HB2⟩
    | false =>
     have HR := Aside0.mk (HNO.out i.toNat HN.out.1 HN.out.2 hq)
     clear hq
     go_wp2_with fail
     go_ret
     exact ⟨congrArg (fun b => Ending.returned (.bool b)) HR.out.symm, HB2.out⟩
   ·have hI := HI.out
    have hin : i = (l0.length : Int) := by omega
    subst hin
    have hLL := HL.out
    have hS := HS.out
    rw [Int.toNat_natCast, List.take_length, hLL, List.take_length] at hS
    have HR := Aside0.mk hS
    have s1 : decide ((l0.length : Int) < (l0.length : Int)) = false := decide_eq_false (by omega)
    clear hS hLL hI hi HI HS
    go_wp2_with fail
    go_ret
    exact ⟨congrArg (fun b => Ending.returned (.bool b)) HR.out.symm, HB.out⟩
 ·have t1 : ((l0.length : Int) != (l1.length : Int)) = true := by rw [bne_iff_ne]; omega
  have HE := Aside0.mk (block_Same.sm_len l0 l1 hl)
  clear hr0 hr1 hf0 hf1 hl
  go_enter Try.func47, Try.ntmps47
  go_wp2
  go_ret
  exact ⟨congrArg (fun b => Ending.returned (.bool b)) HE.out.symm, Below.refl _ _⟩
set_option maxHeartbeats 400000 in
theorem block_Same.calls (A0 : Option Addr) (c0 : Nat) (l0 : List (S73)) (A1 : Option Addr) (c1 : Nat) (l1 : List (S73)) (r : Bool) (w : World) (hr0 : Kd.C k73 w A0 l0.length l0) (hc0 : l0.length ≤ c0) (hr1 : Kd.C k73 w A1 l1.length l1) (hc1 : l1.length ≤ c1) (h : block_Same.f l0 l1 = some r) :
  Calls Try.prog 25 #[.slice A0 l0.length c0, .slice A1 l1.length c1] w fun e w' => e = .returned (.bool r) ∧ Below w.heap.size w w' := by
 unfold block_Same.f at h
 by_cases hf : block_Same.fine l0 ∧ block_Same.fine l1
 ·rw [if_pos hf] at h
  obtain rfl := Option.some.inj h
  have HC := Aside0.mk (block_Same.func A0 c0 l0 A1 c1 l1 w hr0 hr1 hf.1 hf.2)
  clear h hr0 hr1 hc0 hc1 hf
  go_enter Try.func25, Try.ntmps25
  go_wp2_with fail
  refine HC.out.mono ?_
  rintro e w' ⟨rfl, hb⟩
  have HB := Aside0.mk hb
  clear hb
  go_wp2_with fail
  go_ret
  exact ⟨rfl, HB.out⟩
 ·rw [if_neg hf] at h
  cases h

end Go.Proofs.Ythnfmoaiejaheaa.PDiskTos
