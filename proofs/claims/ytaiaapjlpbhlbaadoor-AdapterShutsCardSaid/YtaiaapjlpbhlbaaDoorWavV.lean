/-
  THE REFERENCE's Put of the registers that do more. By the prover of this repo.
-/
import Derived.Test.YtaiaapjlpbhlbaaDoorWavU
namespace Go.Proofs.YtaiaapjlpbhlbaaDoor.Wave
open Go.RowKit Go.Proofs.YtaiaapjlpbhlbaaDoor.Pitch Go.Proofs.YtaiaapjlpbhlbaaDoor.PAdapterTimes Go.Proofs.YtaiaapjlpbhlbaaDoorW.PrintWords Go.Proofs.YtaiaapjlpbhlbaaDoorW.PrintLast Go.Proofs.YtaiaapjlpbhlbaaDoorW.PrintMore
set_option linter.unusedVariables false
set_option linter.unusedSimpArgs false
set_option maxRecDepth 20000
set_option maxRecDepth 20000 in
set_option maxHeartbeats 4000000 in
theorem rPut_mas (base : Nat) (g : Nat) (v : V) (cy : Int) (W : World) (h : IsR base W g v cy) (hw : Wf v) (b : Int) (hb : U8 b) :
    Calls Tryd.prog 57 #[.pointer (some ⟨g, 0, none⟩), .int .i64 16521, .int .i64 b] W fun e W' => e = .returned (.tuple #[]) ∧ IsR base W' g (mas v b) cy ∧ Turn base W W' (One g) := by
  have H := Aside0.mk h
  have HO := Aside0.mk (rout_calls base g v cy W h hw)
  have HBS := Aside0.mk (show base ≤ W.heap.size by have := h.base; have := h.at_.lt; omega)
  have e9 : rd (v.reg.set 9 b) 9 = b := by
    unfold rd
    rw [List.getD_eq_getElem?_getD, show (9 : Int).toNat = 9 from rfl, List.getElem?_set_self (by have := h.lr; omega)]; rfl
  unfold mas
  clear h hw hb
  by_cases h1 : 128 ≤ b
  · have d1 : decide (128 ≤ b) = true := decide_eq_true h1
    by_cases h2 : on v
    · rw [if_neg (fun k => k.2 h2)]
      have d2 : decide (rd v.reg 9 < 128) = false := decide_eq_false (by unfold on at h2; omega)
      clear h1 h2 e9
      go_enter Tryd.func57, Tryd.ntmps57
      go_wp2_with fail
      refine HO.out.mono ?_
      rintro e w3 ⟨rfl, hb_⟩
      have HI3 := Aside0.mk (H.out.below hb_)
      have HT3 := Aside0.mk (Turn.of_below (S := One g) hb_ HBS.out)
      have c9 : w3.cell? ⟨g, 137, none⟩ = some (.int .i64 (rd v.reg 9)) := HI3.out.reg_ 9 (by decide)
      have ck : w3.cell? ⟨g, 128 + 9, none⟩ = some (.int .i64 (rd v.reg 9)) := HI3.out.reg_ 9 (by decide)
      have fk := HI3.out.frozen (128 + 9)
      have HI4 := Aside0.mk (show IsR base (w3.setCell ⟨g, 128 + 9, none⟩ (.int .i64 b)) g (regV v 9 b) cy from HI3.out.set_reg 9 b (by decide))
      have HT4 := Aside0.mk (HT3.out.set_ (i := 128 + 9) rfl H.out.base (.int .i64 b))
      clear hb_
      go_wp2
      first | go_end0 | ((try simp only [Exit.inBlock, Exit.then]); refine bodyPost_ret (results_none rfl _ _ _) rfl ?_)
      exact ⟨rfl, HI4.out, HT4.out⟩
    · rw [if_pos ⟨h1, h2⟩]
      have d2 : decide (rd v.reg 9 < 128) = true := decide_eq_true (by unfold on at h2; omega)
      clear h1 h2 e9
      go_enter Tryd.func57, Tryd.ntmps57
      go_wp2_with fail
      refine HO.out.mono ?_
      rintro e w3 ⟨rfl, hb_⟩
      have HI3 := Aside0.mk (H.out.below hb_)
      have HT3 := Aside0.mk (Turn.of_below (S := One g) hb_ HBS.out)
      have c9 : w3.cell? ⟨g, 137, none⟩ = some (.int .i64 (rd v.reg 9)) := HI3.out.reg_ 9 (by decide)
      have ck : w3.cell? ⟨g, 128 + 9, none⟩ = some (.int .i64 (rd v.reg 9)) := HI3.out.reg_ 9 (by decide)
      have fk := HI3.out.frozen (128 + 9)
      have HI4 := Aside0.mk (show IsR base (w3.setCell ⟨g, 128 + 9, none⟩ (.int .i64 b)) g (regV v 9 b) cy from HI3.out.set_reg 9 b (by decide))
      have HT4 := Aside0.mk (HT3.out.set_ (i := 128 + 9) rfl H.out.base (.int .i64 b))
      clear hb_
      have ch : (w3.setCell ⟨g, 137, none⟩ (.int .i64 b)).cell? ⟨g, 151, none⟩ = some (.int .i64 v.held) := HI4.out.tail_ 12
      have fh := HI4.out.frozen 151
      have HI5 := Aside0.mk (HI4.out.set_tail 12 (.int .i64 (outV v)) (v' := { regV v 9 b with held := outV v }) (cy' := cy) rfl rfl rfl rfl)
      have HT5 := Aside0.mk (HT4.out.set_ (i := 151) rfl H.out.base (.int .i64 (outV v)))
      go_wp2
      first | go_end0 | ((try simp only [Exit.inBlock, Exit.then]); refine bodyPost_ret (results_none rfl _ _ _) rfl ?_)
      exact ⟨rfl, HI5.out, HT5.out⟩
  · have d1 : decide (128 ≤ b) = false := decide_eq_false h1
    rw [if_neg (fun k => h1 k.1)]
    clear h1 e9
    go_enter Tryd.func57, Tryd.ntmps57
    go_wp2_with fail
    refine HO.out.mono ?_
    rintro e w3 ⟨rfl, hb_⟩
    have HI3 := Aside0.mk (H.out.below hb_)
    have HT3 := Aside0.mk (Turn.of_below (S := One g) hb_ HBS.out)
    have c9 : w3.cell? ⟨g, 137, none⟩ = some (.int .i64 (rd v.reg 9)) := HI3.out.reg_ 9 (by decide)
    have ck : w3.cell? ⟨g, 128 + 9, none⟩ = some (.int .i64 (rd v.reg 9)) := HI3.out.reg_ 9 (by decide)
    have fk := HI3.out.frozen (128 + 9)
    have HI4 := Aside0.mk (show IsR base (w3.setCell ⟨g, 128 + 9, none⟩ (.int .i64 b)) g (regV v 9 b) cy from HI3.out.set_reg 9 b (by decide))
    have HT4 := Aside0.mk (HT3.out.set_ (i := 128 + 9) rfl H.out.base (.int .i64 b))
    clear hb_
    go_wp2
    first | go_end0 | ((try simp only [Exit.inBlock, Exit.then]); refine bodyPost_ret (results_none rfl _ _ _) rfl ?_)
    exact ⟨rfl, HI4.out, HT4.out⟩
set_option maxRecDepth 20000 in
set_option maxHeartbeats 4000000 in
theorem rPut_cou (base : Nat) (g : Nat) (v : V) (cy : Int) (W : World) (h : IsR base W g v cy) (hw : Wf v) (b : Int) (hb : U8 b) :
    Calls Tryd.prog 57 #[.pointer (some ⟨g, 0, none⟩), .int .i64 16517, .int .i64 b] W fun e W' => e = .returned (.tuple #[]) ∧ IsR base W' g (cou v b) cy ∧ Turn base W W' (One g) := by
  have H := Aside0.mk h
  have HO := Aside0.mk (rout_calls base g v cy W h hw)
  have HBS := Aside0.mk (show base ≤ W.heap.size by have := h.base; have := h.at_.lt; omega)
  have m1 : b.tmod 128 = b % 128 := Int.tmod_eq_emod_of_nonneg hb.1
  have ws : wrap64 (b % 128 - 128) = b % 128 - 128 := wr64 (by omega) (by omega)
  unfold cou
  clear h hw hb
  by_cases h1 : 64 ≤ b % 128
  · have d1 : decide (63 < b % 128) = true := decide_eq_true (by omega)
    rw [if_pos h1]
    clear h1
    generalize b % 128 = c at *
    go_enter Tryd.func57, Tryd.ntmps57
    go_wp2_with fail
    refine HO.out.mono ?_
    rintro e w3 ⟨rfl, hb_⟩
    have HI3 := Aside0.mk (H.out.below hb_)
    have HT3 := Aside0.mk (Turn.of_below (S := One g) hb_ HBS.out)
    have c9 : w3.cell? ⟨g, 137, none⟩ = some (.int .i64 (rd v.reg 9)) := HI3.out.reg_ 9 (by decide)
    have ck : w3.cell? ⟨g, 128 + 5, none⟩ = some (.int .i64 (rd v.reg 5)) := HI3.out.reg_ 5 (by decide)
    have fk := HI3.out.frozen (128 + 5)
    have HI4 := Aside0.mk (show IsR base (w3.setCell ⟨g, 128 + 5, none⟩ (.int .i64 b)) g (regV v 5 b) cy from HI3.out.set_reg 5 b (by decide))
    have HT4 := Aside0.mk (HT3.out.set_ (i := 128 + 5) rfl H.out.base (.int .i64 b))
    clear hb_
    have ch : (w3.setCell ⟨g, 133, none⟩ (.int .i64 b)).cell? ⟨g, 145, none⟩ = some (.int .i64 v.counter) := HI4.out.tail_ 6
    have fh := HI4.out.frozen 145
    have HI5 := Aside0.mk (HI4.out.set_tail 6 (.int .i64 c) (v' := { regV v 5 b with counter := c }) (cy' := cy) rfl rfl rfl rfl)
    have ch2 : ((w3.setCell ⟨g, 133, none⟩ (.int .i64 b)).setCell ⟨g, 145, none⟩ (.int .i64 c)).cell? ⟨g, 145, none⟩ = some (.int .i64 c) := HI5.out.tail_ 6
    have fh2 := HI5.out.frozen 145
    have HI6 := Aside0.mk (HI5.out.set_tail 6 (.int .i64 (c - 128)) (v' := { regV v 5 b with counter := c - 128 }) (cy' := cy) rfl rfl rfl rfl)
    have HT6 := Aside0.mk ((HT4.out.set_ (i := 145) rfl H.out.base (.int .i64 c)).set_ (i := 145) rfl H.out.base (.int .i64 (c - 128)))
    go_wp2
    first | go_end0 | ((try simp only [Exit.inBlock, Exit.then]); refine bodyPost_ret (results_none rfl _ _ _) rfl ?_)
    exact ⟨rfl, HI6.out, HT6.out⟩
  · have d1 : decide (63 < b % 128) = false := decide_eq_false (by omega)
    rw [if_neg h1]
    clear h1
    generalize b % 128 = c at *
    go_enter Tryd.func57, Tryd.ntmps57
    go_wp2_with fail
    refine HO.out.mono ?_
    rintro e w3 ⟨rfl, hb_⟩
    have HI3 := Aside0.mk (H.out.below hb_)
    have HT3 := Aside0.mk (Turn.of_below (S := One g) hb_ HBS.out)
    have c9 : w3.cell? ⟨g, 137, none⟩ = some (.int .i64 (rd v.reg 9)) := HI3.out.reg_ 9 (by decide)
    have ck : w3.cell? ⟨g, 128 + 5, none⟩ = some (.int .i64 (rd v.reg 5)) := HI3.out.reg_ 5 (by decide)
    have fk := HI3.out.frozen (128 + 5)
    have HI4 := Aside0.mk (show IsR base (w3.setCell ⟨g, 128 + 5, none⟩ (.int .i64 b)) g (regV v 5 b) cy from HI3.out.set_reg 5 b (by decide))
    have HT4 := Aside0.mk (HT3.out.set_ (i := 128 + 5) rfl H.out.base (.int .i64 b))
    clear hb_
    have ch : (w3.setCell ⟨g, 133, none⟩ (.int .i64 b)).cell? ⟨g, 145, none⟩ = some (.int .i64 v.counter) := HI4.out.tail_ 6
    have fh := HI4.out.frozen 145
    have HI5 := Aside0.mk (HI4.out.set_tail 6 (.int .i64 c) (v' := { regV v 5 b with counter := c }) (cy' := cy) rfl rfl rfl rfl)
    have ch2 : ((w3.setCell ⟨g, 133, none⟩ (.int .i64 b)).setCell ⟨g, 145, none⟩ (.int .i64 c)).cell? ⟨g, 145, none⟩ = some (.int .i64 c) := HI5.out.tail_ 6
    have HT5 := Aside0.mk (HT4.out.set_ (i := 145) rfl H.out.base (.int .i64 c))
    go_wp2
    first | go_end0 | ((try simp only [Exit.inBlock, Exit.then]); refine bodyPost_ret (results_none rfl _ _ _) rfl ?_)
    exact ⟨rfl, HI5.out, HT5.out⟩
set_option maxRecDepth 20000 in
set_option maxHeartbeats 4000000 in
theorem rPut_hig (base : Nat) (g : Nat) (v : V) (cy : Int) (W : World) (h : IsR base W g v cy) (hw : Wf v) (b : Int) (hb : U8 b) :
    Calls Tryd.prog 57 #[.pointer (some ⟨g, 0, none⟩), .int .i64 16515, .int .i64 b] W fun e W' => e = .returned (.tuple #[]) ∧ IsR base W' g (hig v b) cy ∧ Turn base W W' (One g) := by
  have H := Aside0.mk h
  have HO := Aside0.mk (rout_calls base g v cy W h hw)
  have HBS := Aside0.mk (show base ≤ W.heap.size by have := h.base; have := h.at_.lt; omega)
  unfold hig
  clear h hw hb
  by_cases h1 : 128 ≤ b
  · have d1 : decide (128 ≤ b) = true := decide_eq_true h1
    rw [if_pos h1]
    clear h1
    go_enter Tryd.func57, Tryd.ntmps57
    go_wp2_with fail
    refine HO.out.mono ?_
    rintro e w3 ⟨rfl, hb_⟩
    have HI3 := Aside0.mk (H.out.below hb_)
    have HT3 := Aside0.mk (Turn.of_below (S := One g) hb_ HBS.out)
    have c9 : w3.cell? ⟨g, 137, none⟩ = some (.int .i64 (rd v.reg 9)) := HI3.out.reg_ 9 (by decide)
    have ck : w3.cell? ⟨g, 128 + 3, none⟩ = some (.int .i64 (rd v.reg 3)) := HI3.out.reg_ 3 (by decide)
    have fk := HI3.out.frozen (128 + 3)
    have HI4 := Aside0.mk (show IsR base (w3.setCell ⟨g, 128 + 3, none⟩ (.int .i64 b)) g (regV v 3 b) cy from HI3.out.set_reg 3 b (by decide))
    have HT4 := Aside0.mk (HT3.out.set_ (i := 128 + 3) rfl H.out.base (.int .i64 b))
    clear hb_
    have ch : (w3.setCell ⟨g, 131, none⟩ (.int .i64 b)).cell? ⟨g, 146, none⟩ = some (.int .i64 v.wrest) := HI4.out.tail_ 7
    have fh := HI4.out.frozen 146
    have HI5 := Aside0.mk (HI4.out.set_tail 7 (.int .i64 0) (v' := { regV v 3 b with wrest := 0 }) (cy' := cy) rfl rfl rfl rfl)
    have ch2 : ((w3.setCell ⟨g, 131, none⟩ (.int .i64 b)).setCell ⟨g, 146, none⟩ (.int .i64 0)).cell? ⟨g, 147, none⟩ = some (.int .i64 v.wat) := HI5.out.tail_ 8
    have fh2 := HI5.out.frozen 147
    have HI6 := Aside0.mk (HI5.out.set_tail 8 (.int .i64 0) (v' := { regV v 3 b with wrest := 0, wat := 0 }) (cy' := cy) rfl rfl rfl rfl)
    have HT6 := Aside0.mk ((HT4.out.set_ (i := 146) rfl H.out.base (.int .i64 0)).set_ (i := 147) rfl H.out.base (.int .i64 0))
    go_wp2
    first | go_end0 | ((try simp only [Exit.inBlock, Exit.then]); refine bodyPost_ret (results_none rfl _ _ _) rfl ?_)
    exact ⟨rfl, HI6.out, HT6.out⟩
  · have d1 : decide (128 ≤ b) = false := decide_eq_false h1
    rw [if_neg h1]
    clear h1
    go_enter Tryd.func57, Tryd.ntmps57
    go_wp2_with fail
    refine HO.out.mono ?_
    rintro e w3 ⟨rfl, hb_⟩
    have HI3 := Aside0.mk (H.out.below hb_)
    have HT3 := Aside0.mk (Turn.of_below (S := One g) hb_ HBS.out)
    have c9 : w3.cell? ⟨g, 137, none⟩ = some (.int .i64 (rd v.reg 9)) := HI3.out.reg_ 9 (by decide)
    have ck : w3.cell? ⟨g, 128 + 3, none⟩ = some (.int .i64 (rd v.reg 3)) := HI3.out.reg_ 3 (by decide)
    have fk := HI3.out.frozen (128 + 3)
    have HI4 := Aside0.mk (show IsR base (w3.setCell ⟨g, 128 + 3, none⟩ (.int .i64 b)) g (regV v 3 b) cy from HI3.out.set_reg 3 b (by decide))
    have HT4 := Aside0.mk (HT3.out.set_ (i := 128 + 3) rfl H.out.base (.int .i64 b))
    clear hb_
    go_wp2
    first | go_end0 | ((try simp only [Exit.inBlock, Exit.then]); refine bodyPost_ret (results_none rfl _ _ _) rfl ?_)
    exact ⟨rfl, HI4.out, HT4.out⟩
set_option maxRecDepth 20000 in
set_option maxHeartbeats 4000000 in
theorem rPut_thi (base : Nat) (g : Nat) (v : V) (cy : Int) (W : World) (h : IsR base W g v cy) (hw : Wf v) (b : Int) (hb : U8 b) :
    Calls Tryd.prog 57 #[.pointer (some ⟨g, 0, none⟩), .int .i64 16519, .int .i64 b] W fun e W' => e = .returned (.tuple #[]) ∧ IsR base W' g (thi v b) cy ∧ Turn base W W' (One g) := by
  have H := Aside0.mk h
  have HO := Aside0.mk (rout_calls base g v cy W h hw)
  have HBS := Aside0.mk (show base ≤ W.heap.size by have := h.base; have := h.at_.lt; omega)
  unfold thi
  clear h hw hb
  by_cases h1 : 128 ≤ b
  · have d1 : decide (128 ≤ b) = true := decide_eq_true h1
    rw [if_pos h1]
    clear h1
    go_enter Tryd.func57, Tryd.ntmps57
    go_wp2_with fail
    refine HO.out.mono ?_
    rintro e w3 ⟨rfl, hb_⟩
    have HI3 := Aside0.mk (H.out.below hb_)
    have HT3 := Aside0.mk (Turn.of_below (S := One g) hb_ HBS.out)
    have c9 : w3.cell? ⟨g, 137, none⟩ = some (.int .i64 (rd v.reg 9)) := HI3.out.reg_ 9 (by decide)
    have ck : w3.cell? ⟨g, 128 + 7, none⟩ = some (.int .i64 (rd v.reg 7)) := HI3.out.reg_ 7 (by decide)
    have fk := HI3.out.frozen (128 + 7)
    have HI4 := Aside0.mk (show IsR base (w3.setCell ⟨g, 128 + 7, none⟩ (.int .i64 b)) g (regV v 7 b) cy from HI3.out.set_reg 7 b (by decide))
    have HT4 := Aside0.mk (HT3.out.set_ (i := 128 + 7) rfl H.out.base (.int .i64 b))
    clear hb_
    have ch : (w3.setCell ⟨g, 135, none⟩ (.int .i64 b)).cell? ⟨g, 148, none⟩ = some (.int .i64 v.brest) := HI4.out.tail_ 9
    have fh := HI4.out.frozen 148
    have HI5 := Aside0.mk (HI4.out.set_tail 9 (.int .i64 0) (v' := { regV v 7 b with brest := 0 }) (cy' := cy) rfl rfl rfl rfl)
    have HT5 := Aside0.mk (HT4.out.set_ (i := 148) rfl H.out.base (.int .i64 0))
    go_wp2
    first | go_end0 | ((try simp only [Exit.inBlock, Exit.then]); refine bodyPost_ret (results_none rfl _ _ _) rfl ?_)
    exact ⟨rfl, HI5.out, HT5.out⟩
  · have d1 : decide (128 ≤ b) = false := decide_eq_false h1
    rw [if_neg h1]
    clear h1
    go_enter Tryd.func57, Tryd.ntmps57
    go_wp2_with fail
    refine HO.out.mono ?_
    rintro e w3 ⟨rfl, hb_⟩
    have HI3 := Aside0.mk (H.out.below hb_)
    have HT3 := Aside0.mk (Turn.of_below (S := One g) hb_ HBS.out)
    have c9 : w3.cell? ⟨g, 137, none⟩ = some (.int .i64 (rd v.reg 9)) := HI3.out.reg_ 9 (by decide)
    have ck : w3.cell? ⟨g, 128 + 7, none⟩ = some (.int .i64 (rd v.reg 7)) := HI3.out.reg_ 7 (by decide)
    have fk := HI3.out.frozen (128 + 7)
    have HI4 := Aside0.mk (show IsR base (w3.setCell ⟨g, 128 + 7, none⟩ (.int .i64 b)) g (regV v 7 b) cy from HI3.out.set_reg 7 b (by decide))
    have HT4 := Aside0.mk (HT3.out.set_ (i := 128 + 7) rfl H.out.base (.int .i64 b))
    clear hb_
    go_wp2
    first | go_end0 | ((try simp only [Exit.inBlock, Exit.then]); refine bodyPost_ret (results_none rfl _ _ _) rfl ?_)
    exact ⟨rfl, HI4.out, HT4.out⟩
end Go.Proofs.YtaiaapjlpbhlbaaDoor.Wave
