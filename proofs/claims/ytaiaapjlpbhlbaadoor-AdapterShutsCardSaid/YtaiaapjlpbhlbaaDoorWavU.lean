/-
  THE REFERENCE's Put, by its contract. By the prover of this repo.
-/
import Derived.Test.YtaiaapjlpbhlbaaDoorWavS
namespace Go.Proofs.YtaiaapjlpbhlbaaDoor.Wave
open Go.RowKit Go.Proofs.YtaiaapjlpbhlbaaDoor.Pitch Go.Proofs.YtaiaapjlpbhlbaaDoor.PAdapterTimes Go.Proofs.YtaiaapjlpbhlbaaDoorW.PrintWords Go.Proofs.YtaiaapjlpbhlbaaDoorW.PrintLast Go.Proofs.YtaiaapjlpbhlbaaDoorW.PrintMore
set_option linter.unusedVariables false
set_option linter.unusedSimpArgs false
set_option maxRecDepth 20000
set_option maxRecDepth 20000 in
set_option maxHeartbeats 2000000 in
theorem rPut_out (base : Nat) (g : Nat) (v : V) (cy : Int) (W : World) (h : IsR base W g v cy) (a : Int) (a0 : 0 ≤ a) (a1 : a < 65536) (ha : a < 16448 ∨ 16523 ≤ a) (b : Int) :
    Calls Tryd.prog 57 #[.pointer (some ⟨g, 0, none⟩), .int .i64 a, .int .i64 b] W fun e W' => e = .returned (.tuple #[]) ∧ IsR base W' g v cy ∧ Turn base W W' (One g) := by
  have H := Aside0.mk h
  rcases ha with ha | ha
  · have t1 : decide (16448 ≤ a) = false := decide_eq_false (by omega)
    have t2 : decide (a < 16512) = true := decide_eq_true (by omega)
    clear h ha
    go_enter Tryd.func57, Tryd.ntmps57
    go_wp2
    first | go_end0 | ((try simp only [Exit.inBlock, Exit.then]); refine bodyPost_ret (results_none rfl _ _ _) rfl ?_)
    exact ⟨rfl, H.out, Turn.refl base W (One g)⟩
  · have t1 : decide (16448 ≤ a) = true := decide_eq_true (by omega)
    have t2 : decide (a < 16512) = false := decide_eq_false (by omega)
    have t3 : decide (16522 < a) = true := decide_eq_true (by omega)
    clear h ha
    go_enter Tryd.func57, Tryd.ntmps57
    go_wp2
    first | go_end0 | ((try simp only [Exit.inBlock, Exit.then]); refine bodyPost_ret (results_none rfl _ _ _) rfl ?_)
    exact ⟨rfl, H.out, Turn.refl base W (One g)⟩
set_option maxRecDepth 20000 in
set_option maxHeartbeats 2000000 in
theorem rPut_tab (base : Nat) (g : Nat) (v : V) (cy : Int) (W : World) (h : IsR base W g v cy) (hw : Wf v) (a : Int) (a0 : 16448 ≤ a) (a1 : a < 16512) (b : Int) (hb : U8 b) :
    Calls Tryd.prog 57 #[.pointer (some ⟨g, 0, none⟩), .int .i64 a, .int .i64 b] W fun e W' => e = .returned (.tuple #[]) ∧ IsR base W' g (tab v (a - 16448) b) cy ∧ Turn base W W' (One g) := by
  have H := Aside0.mk h
  have hr := hw.reg 9
  have c9 : W.cell? ⟨g, 137, none⟩ = some (.int .i64 (rd v.reg 9)) := h.reg_ 9 (by decide)
  have HAS := Aside0.mk (has_calls (rd v.reg 9) 128 hr (.inl rfl) W)
  have t1 : decide (16448 ≤ a) = true := decide_eq_true a0
  have t2 : decide (a < 16512) = true := decide_eq_true a1
  unfold tab
  by_cases ho : on v
  · have e : decide ((128 : Int) ≤ rd v.reg 9 % (2 * 128)) = true := decide_eq_true (by unfold on at ho; unfold U8 at hr; omega)
    rw [e] at HAS
    rw [if_pos ho]
    have m1 : b.tmod 64 = b % 64 := Int.tmod_eq_emod_of_nonneg hb.1
    have ws : wrap64 (a - 16448) = a - 16448 := wr64 (by omega) (by omega)
    have p0 := eq_true (show 0 ≤ a - 16448 by omega)
    have p1 := eq_true (show a - 16448 < 64 by omega)
    have HT := Aside0.mk (fun (W1 : World) (h1 : IsR base W1 g v cy) => h1.table_ (a - 16448) (by omega) (by omega))
    have HA := Aside0.mk (show (a - 16448).toNat < 64 by omega)
    clear h hw hr ho e hb
    go_enter Tryd.func57, Tryd.ntmps57
    have ct := HT.out W H.out
    have ft := H.out.frozen (a - 16448).toNat
    go_wp2_with (go_at_call 85; refine HAS.out.mono ?_; rintro e w3 ⟨rfl, n3, rfl⟩)
    first | go_end0 | ((try simp only [Exit.inBlock, Exit.then]); refine bodyPost_ret (results_none rfl _ _ _) rfl ?_)
    exact ⟨rfl, (H.out.drewN n3).set_table (a - 16448).toNat (b % 64) HA.out, ((Turn.refl base W (One g)).drewN n3).set_ rfl H.out.base _⟩
  · have e : decide ((128 : Int) ≤ rd v.reg 9 % (2 * 128)) = false := decide_eq_false (by unfold on at ho; unfold U8 at hr; omega)
    rw [e] at HAS
    rw [if_neg ho]
    clear h hw hr ho e hb
    go_enter Tryd.func57, Tryd.ntmps57
    go_wp2_with (go_at_call 85; refine HAS.out.mono ?_; rintro e w3 ⟨rfl, n3, rfl⟩)
    first | go_end0 | ((try simp only [Exit.inBlock, Exit.then]); refine bodyPost_ret (results_none rfl _ _ _) rfl ?_)
    exact ⟨rfl, H.out.drewN n3, (Turn.refl base W (One g)).drewN n3⟩
set_option maxRecDepth 20000 in
set_option maxHeartbeats 4000000 in
theorem rPut_plain (base : Nat) (g : Nat) (v : V) (cy : Int) (W : World) (h : IsR base W g v cy) (hw : Wf v) (a : Int) (k : Nat) (hk : a = 16513 ∧ k = 1 ∨ a = 16514 ∧ k = 2 ∨ a = 16518 ∧ k = 6 ∨ a = 16522 ∧ k = 10) (b : Int) (hb : U8 b) :
    Calls Tryd.prog 57 #[.pointer (some ⟨g, 0, none⟩), .int .i64 a, .int .i64 b] W fun e W' => e = .returned (.tuple #[]) ∧ IsR base W' g (regV v k b) cy ∧ Turn base W W' (One g) := by
  have H := Aside0.mk h
  have HO := Aside0.mk (rout_calls base g v cy W h hw)
  have HBS := Aside0.mk (show base ≤ W.heap.size by have := h.base; have := h.at_.lt; omega)
  clear h hw hb
  rcases hk with ⟨rfl, rfl⟩ | ⟨rfl, rfl⟩ | ⟨rfl, rfl⟩ | ⟨rfl, rfl⟩
  all_goals
    go_enter Tryd.func57, Tryd.ntmps57
    go_wp2_with fail
    refine HO.out.mono ?_
    rintro e w3 ⟨rfl, hb⟩
    have HI3 := Aside0.mk (H.out.below hb)
    have HT3 := Aside0.mk (Turn.of_below (S := One g) hb HBS.out)
    have c9 : w3.cell? ⟨g, 137, none⟩ = some (.int .i64 (rd v.reg 9)) := HI3.out.reg_ 9 (by decide)
    clear hb
  · have ck : w3.cell? ⟨g, 129, none⟩ = some (.int .i64 (rd v.reg 1)) := HI3.out.reg_ 1 (by decide)
    have fk := HI3.out.frozen 129
    go_wp2
    first | go_end0 | ((try simp only [Exit.inBlock, Exit.then]); refine bodyPost_ret (results_none rfl _ _ _) rfl ?_)
    exact ⟨rfl, HI3.out.set_reg 1 b (by decide), HT3.out.set_ rfl H.out.base _⟩
  · have ck : w3.cell? ⟨g, 130, none⟩ = some (.int .i64 (rd v.reg 2)) := HI3.out.reg_ 2 (by decide)
    have fk := HI3.out.frozen 130
    go_wp2
    first | go_end0 | ((try simp only [Exit.inBlock, Exit.then]); refine bodyPost_ret (results_none rfl _ _ _) rfl ?_)
    exact ⟨rfl, HI3.out.set_reg 2 b (by decide), HT3.out.set_ rfl H.out.base _⟩
  · have ck : w3.cell? ⟨g, 134, none⟩ = some (.int .i64 (rd v.reg 6)) := HI3.out.reg_ 6 (by decide)
    have fk := HI3.out.frozen 134
    go_wp2
    first | go_end0 | ((try simp only [Exit.inBlock, Exit.then]); refine bodyPost_ret (results_none rfl _ _ _) rfl ?_)
    exact ⟨rfl, HI3.out.set_reg 6 b (by decide), HT3.out.set_ rfl H.out.base _⟩
  · have ck : w3.cell? ⟨g, 138, none⟩ = some (.int .i64 (rd v.reg 10)) := HI3.out.reg_ 10 (by decide)
    have fk := HI3.out.frozen 138
    go_wp2
    first | go_end0 | ((try simp only [Exit.inBlock, Exit.then]); refine bodyPost_ret (results_none rfl _ _ _) rfl ?_)
    exact ⟨rfl, HI3.out.set_reg 10 b (by decide), HT3.out.set_ rfl H.out.base _⟩
end Go.Proofs.YtaiaapjlpbhlbaaDoor.Wave
