/-
  THE REFERENCE's WAVE, and its small functions, each by its contract. By the prover of this repo.
-/
import Derived.Test.YtaiaapjlpbhlbaaDoorWavSlopes
namespace Go.Proofs.YtaiaapjlpbhlbaaDoor.Wave
open Go.RowKit Go.Proofs.YtaiaapjlpbhlbaaDoor.Pitch Go.Proofs.YtaiaapjlpbhlbaaDoor.PAdapterTimes Go.Proofs.YtaiaapjlpbhlbaaDoorW.PrintWords Go.Proofs.YtaiaapjlpbhlbaaDoorW.PrintLast Go.Proofs.YtaiaapjlpbhlbaaDoorW.PrintMore
set_option linter.unusedVariables false
set_option linter.unusedSimpArgs false
set_option maxRecDepth 20000
def i64s (l : List Int) : List Value := l.map (.int .i64)
def tailR (v : V) (cy : Int) : List Value := i64s [v.vreg, v.vgain, v.vn, v.mreg, v.mgain, v.mn, v.counter, v.wrest, v.wat, v.brest, v.bat, cy, v.held, 0]
def cellsR (v : V) (cy : Int) : List Value := i64s v.table ++ i64s v.turns ++ i64s v.reg ++ tailR v cy
theorem zeroR_run (W : World) : Sem.run Tryd.prog (zeroValue 90) W = .ok (.agg (cellsR v0 0).toArray) W := by
  have h : (Tryd.prog.info? 90).map (fun i => i.zero) = some (some (.agg (cellsR v0 0).toArray)) := by kernel_rfl
  obtain ⟨i, hi, hz⟩ := Option.map_eq_some_iff.1 h
  simp [zeroValue, typeInfo, hi, hz]
theorem i64s_len (l : List Int) : (i64s l).length = l.length := by simp [i64s]
theorem i64s_at (l : List Int) (i : Nat) (h : i < l.length) : (i64s l)[i]? = some (.int .i64 (rd l (i : Int))) := by
  simp [i64s, rd, List.getElem?_map, List.getElem?_eq_getElem h, List.getD_eq_getElem?_getD]
theorem i64s_set (l : List Int) (i : Nat) (b : Int) : (i64s l).set i (.int .i64 b) = i64s (l.set i b) := by simp [i64s, List.map_set]
/-- at block g stands the reference's wave v, behind cy cycles -/
structure IsR (base : Nat) (W : World) (g : Nat) (v : V) (cy : Int) : Prop where
  at_ : At W g 90 (cellsR v cy).toArray
  base : base ≤ g
  lt : v.table.length = 64
  ln : v.turns.length = 64
  lr : v.reg.length = 11
section
variable {base : Nat} {W W1 : World} {g : Nat} {v : V} {cy : Int}
theorem IsR.table_ (h : IsR base W g v cy) (i : Int) (h0 : 0 ≤ i) (h1 : i < 64) : W.cell? ⟨g, i.toNat, none⟩ = some (.int .i64 (rd v.table i)) := by
  have hl := h.lt
  rw [h.at_.cell, List.getElem?_toArray]
  unfold cellsR
  rw [List.append_assoc, List.append_assoc, List.getElem?_append_left (by rw [i64s_len]; omega), i64s_at _ _ (by omega), Int.toNat_of_nonneg h0]
theorem IsR.turns_ (h : IsR base W g v cy) (i : Int) (h0 : 0 ≤ i) (h1 : i < 64) : W.cell? ⟨g, 64 + i.toNat, none⟩ = some (.int .i64 (rd v.turns i)) := by
  have hl := h.lt
  have hn := h.ln
  rw [h.at_.cell, List.getElem?_toArray]
  unfold cellsR
  rw [List.append_assoc, List.append_assoc, List.getElem?_append_right (by rw [i64s_len]; omega), i64s_len, hl, List.getElem?_append_left (by rw [i64s_len]; omega), show 64 + i.toNat - 64 = i.toNat by omega, i64s_at _ _ (by omega), Int.toNat_of_nonneg h0]
theorem IsR.reg_ (h : IsR base W g v cy) (i : Nat) (h1 : i < 11) : W.cell? ⟨g, 128 + i, none⟩ = some (.int .i64 (rd v.reg (i : Int))) := by
  have hl := h.lt
  have hn := h.ln
  have hr := h.lr
  rw [h.at_.cell, List.getElem?_toArray]
  unfold cellsR
  rw [List.append_assoc, List.append_assoc, List.getElem?_append_right (by rw [i64s_len]; omega), i64s_len, hl, List.getElem?_append_right (by rw [i64s_len]; omega), i64s_len, hn, List.getElem?_append_left (by rw [i64s_len]; omega), show 128 + i - 64 - 64 = i by omega, i64s_at _ _ (by omega)]
theorem IsR.tail_ (h : IsR base W g v cy) (i : Nat) : W.cell? ⟨g, 139 + i, none⟩ = (tailR v cy)[i]? := by
  have hl := h.lt
  have hn := h.ln
  have hr := h.lr
  rw [h.at_.cell, List.getElem?_toArray]
  unfold cellsR
  rw [List.getElem?_append_right (by simp only [List.length_append, i64s_len]; omega)]
  simp only [List.length_append, i64s_len, hl, hn, hr]
  rw [show 139 + i - (64 + 64 + 11) = i by omega]
theorem IsR.frozen (h : IsR base W g v cy) (i : Nat) : W.frozen? ⟨g, i, none⟩ = false := h.at_.frozen i
theorem IsR.set_table (h : IsR base W g v cy) (i : Nat) (b : Int) (hi : i < 64) : IsR base (W.setCell ⟨g, i, none⟩ (.int .i64 b)) g { v with table := v.table.set i b } cy := by
  refine ⟨?_, h.base, by simp [h.lt], h.ln, h.lr⟩
  have := h.at_.set_ i (.int .i64 b)
  rw [List.setIfInBounds_toArray] at this
  unfold cellsR at this
  rw [List.append_assoc, List.append_assoc, List.set_append_left _ _ (by rw [i64s_len, h.lt]; exact hi), i64s_set] at this
  unfold cellsR
  rw [List.append_assoc, List.append_assoc]
  exact this
theorem IsR.set_turns (h : IsR base W g v cy) (i : Nat) (b : Int) (hi : i < 64) : IsR base (W.setCell ⟨g, 64 + i, none⟩ (.int .i64 b)) g { v with turns := v.turns.set i b } cy := by
  have hl := h.lt
  have hn := h.ln
  refine ⟨?_, h.base, h.lt, by simp [h.ln], h.lr⟩
  have := h.at_.set_ (64 + i) (.int .i64 b)
  rw [List.setIfInBounds_toArray] at this
  unfold cellsR at this
  rw [List.append_assoc, List.append_assoc, List.set_append_right _ _ (by rw [i64s_len]; omega), i64s_len, hl, show 64 + i - 64 = i by omega, List.set_append_left _ _ (by rw [i64s_len]; omega), i64s_set] at this
  unfold cellsR
  rw [List.append_assoc, List.append_assoc]
  exact this
theorem IsR.set_reg (h : IsR base W g v cy) (i : Nat) (b : Int) (hi : i < 11) : IsR base (W.setCell ⟨g, 128 + i, none⟩ (.int .i64 b)) g { v with reg := v.reg.set i b } cy := by
  have hl := h.lt
  have hn := h.ln
  have hr := h.lr
  refine ⟨?_, h.base, h.lt, h.ln, by simp [h.lr]⟩
  have := h.at_.set_ (128 + i) (.int .i64 b)
  rw [List.setIfInBounds_toArray] at this
  unfold cellsR at this
  rw [List.append_assoc, List.append_assoc, List.set_append_right _ _ (by rw [i64s_len]; omega), i64s_len, hl, List.set_append_right _ _ (by rw [i64s_len]; omega), i64s_len, hn, show 128 + i - 64 - 64 = i by omega, List.set_append_left _ _ (by rw [i64s_len]; omega), i64s_set] at this
  unfold cellsR
  rw [List.append_assoc, List.append_assoc]
  exact this
theorem IsR.set_tail (h : IsR base W g v cy) (i : Nat) (u : Value) {v' : V} {cy' : Int} (ht : v'.table = v.table) (hn' : v'.turns = v.turns) (hr' : v'.reg = v.reg) (hc : (tailR v cy).set i u = tailR v' cy') : IsR base (W.setCell ⟨g, 139 + i, none⟩ u) g v' cy' := by
  have hl := h.lt
  have hn := h.ln
  have hr := h.lr
  refine ⟨?_, h.base, by rw [ht]; exact hl, by rw [hn']; exact hn, by rw [hr']; exact hr⟩
  have := h.at_.set_ (139 + i) u
  rw [List.setIfInBounds_toArray] at this
  unfold cellsR at this
  rw [List.set_append_right _ _ (by simp only [List.length_append, i64s_len]; omega)] at this
  simp only [List.length_append, i64s_len, hl, hn, hr] at this
  rw [show 139 + i - (64 + 64 + 11) = i by omega, hc] at this
  unfold cellsR
  rw [ht, hn', hr']
  exact this
theorem IsR.below (h : IsR base W g v cy) (hb : Below W.heap.size W W1) : IsR base W1 g v cy := ⟨h.at_.below hb, h.base, h.lt, h.ln, h.lr⟩
theorem IsR.drewN (h : IsR base W g v cy) (n : Nat) : IsR base (W.drewN n) g v cy := ⟨h.at_.drewN n, h.base, h.lt, h.ln, h.lr⟩
theorem IsR.drew (h : IsR base W g v cy) : IsR base W.drew g v cy := ⟨h.at_.drew, h.base, h.lt, h.ln, h.lr⟩
theorem IsR.kept {W' : World} {gc : Nat} (h : IsR base W g v cy) (ht : Turn base W W' (One gc)) (hne : g ≠ gc) : IsR base W' g v cy :=
  ⟨(ht.kept g h.at_.lt (fun e => hne e)).trans h.at_, h.base, h.lt, h.ln, h.lr⟩
theorem Is.kept {W' : World} {gc : Nat} (h : Is base W g v) (ht : Turn base W W' (One gc)) (hne : g ≠ gc) : Is base W' g v :=
  ⟨(ht.kept g h.at_.lt (fun e => hne e)).trans h.at_, h.base, h.lt, h.ln, h.lr⟩
end
theorem has_calls (n k : Int) (hn : 0 ≤ n ∧ n < 256) (hk : k = 128 ∨ k = 64) (W : World) : Calls Tryd.prog 85 #[.int .i64 n, .int .i64 k] W fun e W' => e = .returned (.bool (decide (k ≤ n % (2 * k)))) ∧ ∃ m, W' = W.drewN m := by
  rcases hk with rfl | rfl
  · have h1 : n.tdiv 128 = n / 128 := Int.tdiv_eq_ediv_of_nonneg hn.1
    have h2 : (n / 128).tmod 2 = n / 128 % 2 := Int.tmod_eq_emod_of_nonneg (by omega)
    have h3 : (n / 128 % 2 == 1) = decide ((128 : Int) ≤ n % (2 * 128)) := by
      by_cases c : (128 : Int) ≤ n % (2 * 128)
      · rw [decide_eq_true c]; exact beq_iff_eq.2 (by omega)
      · rw [decide_eq_false c]; exact beq_eq_false_iff_ne.2 (by omega)
    have w1 : wrap64 (n / 128) = n / 128 := wr64 (by omega) (by omega)
    clear hn
    rw [← h3]
    clear h3
    go_enter Tryd.func85, Tryd.ntmps85
    go_wp2
    go_ret
    first | exact ⟨rfl, 0, rfl⟩ | exact ⟨rfl, 1, rfl⟩
  · have h1 : n.tdiv 64 = n / 64 := Int.tdiv_eq_ediv_of_nonneg hn.1
    have h2 : (n / 64).tmod 2 = n / 64 % 2 := Int.tmod_eq_emod_of_nonneg (by omega)
    have h3 : (n / 64 % 2 == 1) = decide ((64 : Int) ≤ n % (2 * 64)) := by
      by_cases c : (64 : Int) ≤ n % (2 * 64)
      · rw [decide_eq_true c]; exact beq_iff_eq.2 (by omega)
      · rw [decide_eq_false c]; exact beq_eq_false_iff_ne.2 (by omega)
    have w1 : wrap64 (n / 64) = n / 64 := wr64 (by omega) (by omega)
    clear hn
    rw [← h3]
    clear h3
    go_enter Tryd.func85, Tryd.ntmps85
    go_wp2
    go_ret
    first | exact ⟨rfl, 0, rfl⟩ | exact ⟨rfl, 1, rfl⟩
/-- a slope as a value -/
def slV (r a n : Int) : Value := .agg #[.int .i64 r, .int .i64 a, .int .i64 n]
theorem ptr_next (W : World) (o : Obj) : Value.pointer (some ⟨W.heap.size + 1, 0, none⟩) = .pointer (some ⟨(W.alloc o).heap.size, 0, none⟩) := by
  show _ = Value.pointer (some ⟨(W.heap.push o).size, 0, none⟩)
  rw [Array.size_push]
theorem three_len (r a n : Value) : (Tryd.prog.info? 88).map (·.size) = some (#[r, a, n] : Array Value).size := by
  show _ = some 3
  kernel_rfl
set_option maxRecDepth 20000 in
theorem rput_calls (r a n b : Int) (hb : U8 b) (W : World) : Calls Tryd.prog 86 #[slV r a n, .int .i64 b] W fun e W' => e = .returned (slV b (if 128 ≤ b then b % 64 else a) 0) ∧ Below W.heap.size W W' := by
  have m1 : b.tmod 64 = b % 64 := Int.tmod_eq_emod_of_nonneg hb.1
  by_cases h : 128 ≤ b
  case' pos =>
    have d1 : decide (128 ≤ b) = true := decide_eq_true h
    rw [if_pos h]
  case' neg =>
    have d1 : decide (128 ≤ b) = false := decide_eq_false h
    rw [if_neg h]
  all_goals
    clear h hb
    unfold slV
    go_enter Tryd.func86, Tryd.ntmps86
    go_wp2
    refine bodyPost_ret (v := .agg #[.int .i64 b, .int .i64 _, .int .i64 0]) (by simp [results, Tryd.results86, go_sem]) rfl ⟨rfl, ?_⟩
    exact below_alloc (below_alloc (Below.refl _ _) _) _
set_option maxRecDepth 20000 in
set_option maxHeartbeats 1000000 in
theorem rslope_calls (r a n m : Int) (hr : U8 r) (ha : 0 ≤ a ∧ a < 64) (hn : 0 ≤ n ∧ n < 131072) (hm : U8 m) (W : World) :
    Calls Tryd.prog 89 #[slV r a n, .int .i64 m] W fun e W' => e = .returned (slV r (clkS r a n m).1 (clkS r a n m).2) ∧ Below W.heap.size W W' := by
  have w1 : wrap64 (n + 1) = n + 1 := wr64 (by omega) (by omega)
  have m1 : r.tmod 64 = r % 64 := Int.tmod_eq_emod_of_nonneg hr.1
  have hr1 := hr.1
  have hr2 := hr.2
  have hm1 := hm.1
  have hm2 := hm.2
  have h8 : 8 * (r % 64 + 1) * (m + 1) ≤ 512 * 256 := Int.mul_le_mul (by omega) (by omega) (by omega) (by decide)
  have h80 : 0 ≤ 8 * (r % 64 + 1) * (m + 1) := Int.mul_nonneg (by omega) (by omega)
  have w2 : wrap64 (r % 64 + 1) = r % 64 + 1 := wr64 (by omega) (by omega)
  have w3 : wrap64 (8 * (r % 64 + 1)) = 8 * (r % 64 + 1) := wr64 (by omega) (by omega)
  have w4 : wrap64 (m + 1) = m + 1 := wr64 (by omega) (by omega)
  have w5 : wrap64 (8 * (r % 64 + 1) * (m + 1)) = 8 * (r % 64 + 1) * (m + 1) := wr64 (by omega) (by omega)
  have wa : wrap64 (a + 1) = a + 1 := wr64 (by omega) (by omega)
  have wb : wrap64 (a - 1) = a - 1 := wr64 (by omega) (by omega)
  have HAS := Aside0.mk (fun (W1 : World) => has_calls r 64 hr (.inr rfl) W1)
  have HAA := Aside0.mk ha
  unfold clkS
  by_cases h1 : 128 ≤ r
  · have d1 : decide (128 ≤ r) = true := decide_eq_true h1
    rw [if_pos h1]
    clear h1 hr ha hn hm hr1 hr2 hm1 hm2 h8 h80
    unfold slV
    go_enter Tryd.func89, Tryd.ntmps89
    go_wp2
    refine bodyPost_ret (v := .agg #[.int .i64 r, .int .i64 a, .int .i64 _]) (by simp [results, Tryd.results89, go_sem]) rfl ⟨rfl, ?_⟩
    exact below_alloc (below_alloc (Below.refl _ _) _) _
  have d1 : decide (128 ≤ r) = false := decide_eq_false h1
  rw [if_neg h1]
  by_cases h2 : n + 1 < 8 * (r % 64 + 1) * (m + 1)
  · have d2 : decide (n + 1 < 8 * (r % 64 + 1) * (m + 1)) = true := decide_eq_true h2
    rw [if_pos h2]
    clear h1 h2 hr ha hn hm hr1 hr2 hm1 hm2 h8 h80
    unfold slV
    go_enter Tryd.func89, Tryd.ntmps89
    go_wp2
    refine bodyPost_ret (v := .agg #[.int .i64 r, .int .i64 a, .int .i64 _]) (by simp [results, Tryd.results89, go_sem]) rfl ⟨rfl, ?_⟩
    exact below_alloc (below_alloc (Below.refl _ _) _) _
  have d2 : decide (n + 1 < 8 * (r % 64 + 1) * (m + 1)) = false := decide_eq_false h2
  rw [if_neg h2]
  have e3 : decide ((64 : Int) ≤ r % (2 * 64)) = !decide (r % 128 < 64) := by
    rw [show (2 : Int) * 64 = 128 by decide]
    by_cases c : r % 128 < 64
    · rw [decide_eq_true c, decide_eq_false (by omega)]; rfl
    · rw [decide_eq_false c, decide_eq_true (by omega)]; rfl
  rw [e3] at HAS
  by_cases h3 : r % 128 < 64
  · rw [decide_eq_true h3] at HAS
    rw [if_pos h3]
    have em : max (a - 1) 0 = a - min a 1 := by omega
    clear h1 h2 h3 e3 hr ha hn hm hr1 hr2 hm1 hm2 h8 h80
    unfold slV
    go_enter Tryd.func89, Tryd.ntmps89
    go_wp2_with (go_at_call 85; refine (HAS.out _).mono ?_; rintro e w3 ⟨rfl, n3, rfl⟩)
    have hA := HAA.out
    have em2 : a - min a 1 = (if a - 1 ≤ 0 then 0 else a - 1) := by split <;> omega
    rw [em2]
    refine bodyPost_ret (v := .agg #[.int .i64 r, .int .i64 (if a - 1 ≤ 0 then 0 else a - 1), .int .i64 0]) ?_ rfl ⟨rfl, ?_⟩
    · simp [results, Tryd.results89, go_sem]
    · repeat (first | exact Below.refl _ _ | refine below_set ?_ (Nat.le_refl _) | refine below_set ?_ (Nat.le_succ _) | apply pw_below_drewN | apply below_alloc)
  · rw [decide_eq_false h3] at HAS
    rw [if_neg h3]
    by_cases h4 : a < 32
    case' pos =>
      have d4 : decide (a < 32) = true := decide_eq_true h4
      rw [if_pos h4]
    case' neg =>
      have d4 : decide (a < 32) = false := decide_eq_false h4
      rw [if_neg h4]
    all_goals
      clear h1 h2 h3 h4 e3 hr ha hn hm hr1 hr2 hm1 hm2 h8 h80
      unfold slV
      go_enter Tryd.func89, Tryd.ntmps89
      go_wp2_with (go_at_call 85; refine (HAS.out _).mono ?_; rintro e w3 ⟨rfl, n3, rfl⟩)
    · refine bodyPost_ret (v := .agg #[.int .i64 r, .int .i64 a, .int .i64 0]) (by simp [results, Tryd.results89, go_sem]) rfl ⟨rfl, ?_⟩
      repeat (first | exact Below.refl _ _ | refine below_set ?_ (Nat.le_refl _) | refine below_set ?_ (Nat.le_succ _) | apply pw_below_drewN | apply below_alloc)
    · refine bodyPost_ret (v := .agg #[.int .i64 r, .int .i64 (a + 1), .int .i64 0]) (by simp [results, Tryd.results89, go_sem]) rfl ⟨rfl, ?_⟩
      repeat (first | exact Below.refl _ _ | refine below_set ?_ (Nat.le_refl _) | refine below_set ?_ (Nat.le_succ _) | apply pw_below_drewN | apply below_alloc)
end Go.Proofs.YtaiaapjlpbhlbaaDoor.Wave
