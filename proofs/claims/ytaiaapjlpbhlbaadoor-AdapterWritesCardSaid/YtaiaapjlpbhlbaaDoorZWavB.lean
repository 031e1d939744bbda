/-
 GET, LAY, PUT. By the prover of this repo.
-/
import Derived.Test.YtaiaapjlpbhlbaaDoorZWav
namespace Go.Proofs.YtaiaapjlpbhlbaaDoor.Wave
open Go.RowKit Go.Proofs.YtaiaapjlpbhlbaaDoorW.PrintWords Go.Proofs.YtaiaapjlpbhlbaaDoorW.PrintLast Go.Proofs.YtaiaapjlpbhlbaaDoorW.PrintMore
set_option linter.unusedVariables false
set_option linter.unusedSimpArgs false
/-- what can be read -/
def getV (v : V) (a : Int) : Int × Bool :=
 if 16448 ≤ a ∧ a < 16512 then (rd v.table (a - 16448) + 64, true) else if a = 16528 then (v.vgain + 64, true) else if a = 16530 then (v.mgain + 64, true) else (0, false)
theorem get_calls (base : Nat) (g : Nat) (v : V) (W : World) (h : Is base W g v) (hw : Wf v) (a : Int) (a0 : 0 ≤ a) (a1 : a < 65536) :
  Calls Tryd.prog 51 #[.pointer (some ⟨g, 0, none⟩), .int .u16 a] W fun e W' => e = .returned (.tuple #[.int .u8 (getV v a).1, .bool (getV v a).2]) ∧ W = W' := by
 have cv : W.cell? ⟨g, 140, none⟩ = some (.int .u8 v.vgain) := h.tail_ 1
 have cm : W.cell? ⟨g, 143, none⟩ = some (.int .u8 v.mgain) := h.tail_ 4
 have ov := or64 _ hw.vgain.1 hw.vgain.2
 have om := or64 _ hw.mgain.1 hw.mgain.2
 unfold getV
 by_cases h1 : 16448 ≤ a ∧ a < 16512
 ·rw [if_pos h1]
  have ct := h.table_ (a - 16448) (by omega) (by omega)
  have ot := or64 _ (hw.table (a - 16448)).1 (hw.table (a - 16448)).2
  have t1 : decide (16448 ≤ a) = true := decide_eq_true h1.1
  have t2 : decide (a < 16512) = true := decide_eq_true h1.2
  have p0 := eq_true (show 0 ≤ a - 16448 by omega)
  have p1 := eq_true (show a - 16448 < 64 by omega)
  obtain ⟨h10, h11⟩ := h1
  clear h hw
  go_enter Tryd.func51, Tryd.ntmps51
  go_wp2
  first | go_ret2 | ((try simp only [Exit.inBlock, Exit.then]); refine bodyPost_ret (results_tmp2 rfl _ _ _) rfl ?_)
  exact ⟨rfl, rfl⟩
 ·rw [if_neg h1]
  have t1 : (decide (16448 ≤ a) && decide (a < 16512)) = false := by simp; omega
  by_cases h2 : a = 16528
  ·subst h2
   clear h hw t1 h1
   go_enter Tryd.func51, Tryd.ntmps51
   go_wp2
   first | go_ret2 | ((try simp only [Exit.inBlock, Exit.then]); refine bodyPost_ret (results_tmp2 rfl _ _ _) rfl ?_)
   exact ⟨rfl, rfl⟩
  ·by_cases h3 : a = 16530
   ·subst h3
    clear h hw t1 h1 h2
    go_enter Tryd.func51, Tryd.ntmps51
    go_wp2
    first | go_ret2 | ((try simp only [Exit.inBlock, Exit.then]); refine bodyPost_ret (results_tmp2 rfl _ _ _) rfl ?_)
    exact ⟨rfl, rfl⟩
   ·rw [if_neg h2, if_neg h3]
    have t2 : (a == 16528) = false := by simpa using h2
    have t3 : (a == 16530) = false := by simpa using h3
    by_cases h4 : 16448 ≤ a
    all_goals
     first | have t4 : decide (16448 ≤ a) = true := decide_eq_true h4 | have t4 : decide (16448 ≤ a) = false := decide_eq_false h4
     first | have t5 : decide (a < 16512) = false := decide_eq_false (by omega) | have t5 : True := trivial
     clear h hw h1 h2 h3 t1
     go_enter Tryd.func51, Tryd.ntmps51
     go_wp2
     first | go_ret2 | ((try simp only [Exit.inBlock, Exit.then]); refine bodyPost_ret (results_tmp2 rfl _ _ _) rfl ?_)
     exact ⟨rfl, rfl⟩
/-! ### Put -/
def regV (v : V) (i : Nat) (b : Int) : V := { v with reg := v.reg.set i b }
theorem andnot_all : ((List.range 256).all fun b => (List.range 256).all fun w => decide (Go.bits .and .u8 (Go.bits .andNot .u8 (b : Int) (w : Int)) 128 = if 128 ≤ b ∧ ¬ 128 ≤ w then 128 else 0)) = true := by kernel_rfl
theorem andnot (b w : Int) (b0 : 0 ≤ b) (b1 : b < 256) (w0 : 0 ≤ w) (w1 : w < 256) : Go.bits .and .u8 (Go.bits .andNot .u8 b w) 128 = if 128 ≤ b ∧ ¬ 128 ≤ w then 128 else 0 := by
 obtain ⟨m, rfl⟩ := Int.eq_ofNat_of_zero_le b0
 obtain ⟨n, rfl⟩ := Int.eq_ofNat_of_zero_le w0
 have h := of_decide_eq_true (List.all_eq_true.1 (List.all_eq_true.1 andnot_all m (List.mem_range.2 (by omega))) n (List.mem_range.2 (by omega)))
 rw [h]
 by_cases c : 128 ≤ m ∧ ¬ 128 ≤ n
 ·rw [if_pos c, if_pos (by omega)]
 ·rw [if_neg c, if_neg (by omega)]
/-- the registers that are none but a number -/
theorem put_plain (base : Nat) (g : Nat) (v : V) (W : World) (h : Is base W g v) (hw : Wf v) (hm : MS W) (k : Nat) (hk : k = 1 ∨ k = 2 ∨ k = 6 ∨ k = 10) (b : Int) (hb : U8 b) :
  Calls Tryd.prog 42 #[.pointer (some ⟨g, 0, none⟩), .int .u16 (16512 + (k : Int)), .int .u8 b] W fun e W' => e = .returned (.tuple #[]) ∧ Is base W' g (regV v k b) ∧ Turn base W W' (One g) := by
 have HO := Aside0.mk (out_calls base g v W h hw hm)
 have H := Aside0.mk h
 have c9 : W.cell? ⟨g, 137, none⟩ = some (.int .u8 (rd v.reg 9)) := h.reg_ 9 (by decide)
 rcases hk with rfl | rfl | rfl | rfl
 all_goals
  have ck1 : W.cell? ⟨g, 129, none⟩ = some (.int .u8 (rd v.reg 1)) := h.reg_ 1 (by decide)
  have ck2 : W.cell? ⟨g, 130, none⟩ = some (.int .u8 (rd v.reg 2)) := h.reg_ 2 (by decide)
  have ck6 : W.cell? ⟨g, 134, none⟩ = some (.int .u8 (rd v.reg 6)) := h.reg_ 6 (by decide)
  have ckA : W.cell? ⟨g, 138, none⟩ = some (.int .u8 (rd v.reg 10)) := h.reg_ 10 (by decide)
  have f1 := h.frozen 129
  have f2 := h.frozen 130
  have f6 := h.frozen 134
  have fA := h.frozen 138
  clear h hw hm
  go_enter Tryd.func42, Tryd.ntmps42
  go_wp2_with (go_at_call 68; refine HO.out.mono ?_; rintro e W1 ⟨rfl, n1, rfl⟩)
  go_end0
 ·exact ⟨rfl, (H.out.drewN n1).set_reg 1 b (by decide), ((Turn.refl base W (One g)).drewN n1).set_ rfl H.out.base _⟩
 ·exact ⟨rfl, (H.out.drewN n1).set_reg 2 b (by decide), ((Turn.refl base W (One g)).drewN n1).set_ rfl H.out.base _⟩
 ·exact ⟨rfl, (H.out.drewN n1).set_reg 6 b (by decide), ((Turn.refl base W (One g)).drewN n1).set_ rfl H.out.base _⟩
 ·exact ⟨rfl, (H.out.drewN n1).set_reg 10 b (by decide), ((Turn.refl base W (One g)).drewN n1).set_ rfl H.out.base _⟩
/-- the volume's slope -/
def vol (v : V) (b : Int) : V := { regV v 0 b with vreg := b, vn := 0, vgain := if 128 ≤ b then b % 64 else v.vgain }
theorem put_vol (base : Nat) (g : Nat) (v : V) (W : World) (h : Is base W g v) (hw : Wf v) (hm : MS W) (b : Int) (hb : U8 b) :
  Calls Tryd.prog 42 #[.pointer (some ⟨g, 0, none⟩), .int .u16 16512, .int .u8 b] W fun e W' => e = .returned (.tuple #[]) ∧ Is base W' g (vol v b) ∧ Turn base W W' (One g) := by
 have HO := Aside0.mk (out_calls base g v W h hw hm)
 have H := Aside0.mk h
 have HBB := Aside0.mk hb
 have c9 : W.cell? ⟨g, 137, none⟩ = some (.int .u8 (rd v.reg 9)) := h.reg_ 9 (by decide)
 have ck0 : W.cell? ⟨g, 128, none⟩ = some (.int .u8 (rd v.reg 0)) := h.reg_ 0 (by decide)
 have f0 := h.frozen 128
 clear h hw hm hb
 go_enter Tryd.func42, Tryd.ntmps42
 go_wp2_with (first
  | (go_at_call 68; refine HO.out.mono ?_; rintro e W1 ⟨rfl, n1, rfl⟩)
  | (go_at_call 76; refine (put_calls base g (regV v 0 b) _ b HBB.out ((H.out.drewN n1).set_reg 0 b (by decide)) 0 (.inl rfl)).mono ?_; rintro e W2 ⟨rfl, hi, ht⟩; rw [if_pos rfl] at hi; have HI2 := Aside0.mk hi; have HT2 := Aside0.mk ht; clear hi ht))
 go_end0
 exact ⟨rfl, HI2.out, (((Turn.refl base W (One g)).drewN n1).set_ rfl H.out.base _).trans HT2.out⟩
/-- the table: while it is told so -/
def tab (v : V) (i b : Int) : V := if on v then { v with table := v.table.set i.toNat (b % 64) } else v
theorem put_tab (base : Nat) (g : Nat) (v : V) (W : World) (h : Is base W g v) (hw : Wf v) (a : Int) (a0 : 16448 ≤ a) (a1 : a < 16512) (b : Int) (hb : U8 b) :
  Calls Tryd.prog 42 #[.pointer (some ⟨g, 0, none⟩), .int .u16 a, .int .u8 b] W fun e W' => e = .returned (.tuple #[]) ∧ Is base W' g (tab v (a - 16448) b) ∧ Turn base W W' (One g) := by
 have H := Aside0.mk h
 have c9 : W.cell? ⟨g, 137, none⟩ = some (.int .u8 (rd v.reg 9)) := h.reg_ 9 (by decide)
 have ct := h.table_ (a - 16448) (by omega) (by omega)
 have ft := h.frozen (a - 16448).toNat
 have a128 := and128 _ (hw.reg 9).1 (hw.reg 9).2
 have a63 := and63 b hb.1 hb.2
 have t1 : decide (a < 16448) = false := decide_eq_false (by omega)
 have t2 : decide (16523 ≤ a) = false := decide_eq_false (by omega)
 have t3 : decide (a < 16512) = true := decide_eq_true a1
 have p0 := eq_true (show 0 ≤ a - 16448 by omega)
 have p1 := eq_true (show a - 16448 < 64 by omega)
 unfold tab
 by_cases ho : on v
 ·rw [if_pos ho]
  unfold on at ho
  rw [if_pos ho] at a128
  clear h hw hb ho
  go_enter Tryd.func42, Tryd.ntmps42
  go_wp2
  first | go_end0 | ((try simp only [Exit.inBlock, Exit.then]); refine bodyPost_ret (results_none rfl _ _ _) rfl ?_)
  exact ⟨rfl, H.out.set_table _ _ (by omega), (Turn.refl base W (One g)).set_ rfl H.out.base _⟩
 ·rw [if_neg ho]
  unfold on at ho
  rw [if_neg ho] at a128
  clear h hw hb ho
  go_enter Tryd.func42, Tryd.ntmps42
  go_wp2
  first | go_end0 | ((try simp only [Exit.inBlock, Exit.then]); refine bodyPost_ret (results_none rfl _ _ _) rfl ?_)
  exact ⟨rfl, H.out, Turn.refl base W (One g)⟩
/-- the common register -/
def mas (v : V) (b : Int) : V := if 128 ≤ b ∧ ¬ on v then { regV v 9 b with held := outV v } else regV v 9 b
theorem put_mas (base : Nat) (g : Nat) (v : V) (W : World) (h : Is base W g v) (hw : Wf v) (hm : MS W) (b : Int) (hb : U8 b) :
  Calls Tryd.prog 42 #[.pointer (some ⟨g, 0, none⟩), .int .u16 16521, .int .u8 b] W fun e W' => e = .returned (.tuple #[]) ∧ Is base W' g (mas v b) ∧ Turn base W W' (One g) := by
 have HO := Aside0.mk (out_calls base g v W h hw hm)
 have H := Aside0.mk h
 have an := andnot b _ hb.1 hb.2 (hw.reg 9).1 (hw.reg 9).2
 have c9 : W.cell? ⟨g, 137, none⟩ = some (.int .u8 (rd v.reg 9)) := h.reg_ 9 (by decide)
 have f9 := h.frozen 137
 have fh := h.frozen 151
 have ch : W.cell? ⟨g, 151, none⟩ = some (.int .i64 v.held) := h.tail_ 12
 unfold mas on
 by_cases hc : 128 ≤ b ∧ ¬ 128 ≤ rd v.reg 9
 ·rw [if_pos hc] at an ⊢
  clear h hw hm hb hc
  go_enter Tryd.func42, Tryd.ntmps42
  go_wp2_with (go_at_call 68; refine HO.out.mono ?_; rintro e W1 ⟨rfl, n1, rfl⟩)
  go_end0
  exact ⟨rfl, ((H.out.drewN n1).set_reg 9 b (by decide)).set_tail 12 _ rfl rfl rfl rfl, (((Turn.refl base W (One g)).drewN n1).set_ rfl H.out.base _).set_ rfl H.out.base _⟩
 ·rw [if_neg hc] at an ⊢
  clear h hw hm hb hc
  go_enter Tryd.func42, Tryd.ntmps42
  go_wp2_with (go_at_call 68; refine HO.out.mono ?_; rintro e W1 ⟨rfl, n1, rfl⟩)
  go_end0
  exact ⟨rfl, (H.out.drewN n1).set_reg 9 b (by decide), ((Turn.refl base W (One g)).drewN n1).set_ rfl H.out.base _⟩
end Go.Proofs.YtaiaapjlpbhlbaaDoor.Wave
