/- SealCuts: a frame of which the end is missing is none: not by its sum, but by its size: for every input. No condition. -/
import Derived.Test.YtinoijjbkbmmdaaPSealCutsx2
import Derived.Test.YtinoijjbkbmmdaaU
namespace Go.Proofs.Ytinoijjbkbmmdaa.Pure
open Go.RowKit Go.Proofs.Ytinoijjbkbmmdaa.PSealCuts Go.Proofs.Ytinoijjbkbmmdaa.U Go.Proofs.YtinoijjbkbmmdaaW.PrintWords Go.Proofs.YtinoijjbkbmmdaaW.PrintLast Go.Proofs.YtinoijjbkbmmdaaW.PrintMore
set_option linter.unusedVariables false
set_option linter.unusedSimpArgs false

/-! ### seal_Long -/
theorem long_step (s : Nat) (hs : s < 4294967296) : Go.bits .xor .u32 ((s : Int) / 2) ((3988292384 * (Go.bits .and .u32 (s : Int) 1)) % 4294967296) = ((Crc.F s : Nat) : Int) := by
  rw [and1_u32 s hs]
  have h2 : s % 2 = 0 ∨ s % 2 = 1 := by omega
  have e : (3988292384 * ((s % 2 : Nat) : Int)) % 4294967296 = ((3988292384 * (s % 2) : Nat) : Int) := by
    rcases h2 with h | h <;> rw [h] <;> decide
  rw [e, show ((s : Int) / 2) = ((s / 2 : Nat) : Int) by omega, xor_u32 _ _ (by omega) (by rcases h2 with h | h <;> rw [h] <;> decide)]
  rfl
theorem long_l1 (L : List Int) (n i : Int) (hi : 0 ≤ i) (hi2 : i < 9223372036854775807) (r : Int) (j : Nat) : ∀ s : Nat, s < 4294967296 → j ≤ 8 →
    Ev (fun k => seal_Long.l0 k ((Crc.Fn j s : Nat) : Int) L n (i + 1)) r → Ev (fun k => seal_Long.l1 k (s : Int) L n i ((8 - j : Nat) : Int)) r := by
  induction j with
  | zero =>
    intro s hs _ h
    refine Ev.step (f := fun k => seal_Long.l0 k (s : Int) L n (i + 1)) (fun k => ?_) h
    simp only [seal_Long.l1]
    rw [if_neg (by omega), w64 (by omega) (by omega)]
  | succ j ih =>
    intro s hs hj h
    refine Ev.step (f := fun k => seal_Long.l1 k ((Crc.F s : Nat) : Int) L n i ((8 - j : Nat) : Int)) (fun k => ?_) (ih _ (Crc.F_lt hs) (by omega) h)
    simp only [seal_Long.l1]
    rw [if_pos (by omega), long_step s hs, w64 (by omega) (by omega)]
    congr 1
    omega
theorem long_l0 (ns : List Nat) (hn : small ns) (hl : ns.length ≤ 140737488351232) (d : Nat) : ∀ i s : Nat, i + d = ns.length → s < 4294967296 →
    Ev (fun k => seal_Long.l0 k (s : Int) (cst ns) (ns.length : Int) (i : Int)) ((4294967295 - Crc.feed s (bitsL (ns.drop i)) : Nat) : Int) := by
  induction d with
  | zero =>
    intro i s hi hs
    refine Ev.step (f := fun _ => some ((4294967295 - s : Nat) : Int)) (fun k => ?_) ?_
    · simp only [seal_Long.l0]
      rw [if_neg (by omega)]
      have := xor_u32 4294967295 s (by omega) hs
      rw [not_u32 s hs] at this
      exact congrArg some this
    · rw [List.drop_eq_nil_of_le (by omega)]
      exact Ev.now _
  | succ d ih =>
    intro i s hi hs
    have hb := getD_small hn i
    have hx : s ^^^ ns.getD i 0 < 4294967296 := Nat.xor_lt_two_pow (n := 32) hs (by omega)
    have h1 := ih (i + 1) (Crc.Fn 8 (s ^^^ ns.getD i 0)) (by omega) (Crc.Fn_lt 8 _ hx)
    have h2 : Ev (fun k => seal_Long.l0 k ((Crc.Fn 8 (s ^^^ ns.getD i 0) : Nat) : Int) (cst ns) (ns.length : Int) ((i : Int) + 1)) ((4294967295 - Crc.feed (Crc.Fn 8 (s ^^^ ns.getD i 0)) (bitsL (ns.drop (i + 1))) : Nat) : Int) := h1
    have h3 := long_l1 (cst ns) (ns.length : Int) (i : Int) (by omega) (by omega) _ 8 _ hx (by omega) h2
    rw [drop_getD ns i (by omega), bitsL_cons, Crc.feed_append, ← feed_byte s _ hb]
    refine Ev.step (f := fun k => seal_Long.l1 k ((s ^^^ ns.getD i 0 : Nat) : Int) (cst ns) (ns.length : Int) (i : Int) ((8 - 8 : Nat) : Int)) (fun k => ?_) h3
    simp only [seal_Long.l0]
    rw [if_pos (by omega), if_pos (by omega), if_pos (by rw [cst_length]; omega), rd_cst, Int.emod_eq_of_lt (by omega) (by omega), xor_u32 s _ hs (by omega)]
    rfl
theorem long_ev (ns : List Nat) (hn : small ns) (hl : ns.length ≤ 140737488351232) : Ev (fun k => seal_Long.f k (cst ns)) ((longN ns : Nat) : Int) := by
  have := long_l0 ns hn hl ns.length 0 4294967295 (by omega) (by omega)
  rw [List.drop_zero] at this
  unfold seal_Long.f
  rw [cst_length]
  exact this

/-! ### kotatsulaw02_awake -/
theorem awake_ev : Ev (fun k => kotatsulaw02_awake.f k) true := by
  have h := long_ev [49, 50, 51, 52, 53, 54, 55, 56, 57] (by intro n hn; simp at hn; omega) (by decide)
  have e : longN [49, 50, 51, 52, 53, 54, 55, 56, 57] = 3421780262 := by decide +kernel
  rw [e] at h
  exact Ev.bind (f := fun _ t => some (t == 3421780262)) h (Ev.now _)

/-! ### kotatsuref01_Cut -/
theorem cut_l0 (l : List Int) (m : Nat) (hm : m < 100000) (hl : l.length ≤ 140737488351232) (d : Nat) : ∀ i : Nat, i + d = l.length → Ev (fun k => kotatsuref01_Cut.l0 k (m : Int) ((l.take i).take m) l (l.length : Int) (i : Int)) (l.take m) := by
  induction d with
  | zero =>
    intro i hi
    refine Ev.step (f := fun _ => some (l.take m)) (fun k => ?_) (Ev.now _)
    simp only [kotatsuref01_Cut.l0]
    rw [if_neg (by omega), List.take_of_length_le (show l.length ≤ i by omega)]
  | succ d ih =>
    intro i hi
    have hn := ih (i + 1) (by omega)
    have hlen : ((l.take i).take m).length ≤ i := by simp only [List.length_take]; omega
    have hget : l.take (i + 1) = l.take i ++ [rd l (i : Int)] := by
      unfold rd
      rw [List.take_succ_eq_append_getElem (by omega), List.getD_eq_getElem?_getD, Int.toNat_natCast, List.getElem?_eq_getElem (by omega)]; rfl
    by_cases c : i < m
    · refine Ev.step (f := fun k => kotatsuref01_Cut.l0 k (m : Int) ((l.take (i + 1)).take m) l (l.length : Int) ((i + 1 : Nat) : Int)) (fun k => ?_) hn
      simp only [kotatsuref01_Cut.l0]
      rw [if_pos (by omega), if_pos (by omega), if_pos (by omega), if_pos (by omega), if_pos (by omega), w64 (by omega) (by omega)]
      have e : (l.take (i + 1)).take m = (l.take i).take m ++ [rd l (i : Int)] := by
        rw [hget, List.take_append, List.take_of_length_le (l := [rd l (i : Int)]) (by simp only [List.length_take, List.length_cons, List.length_nil]; omega)]
      rw [e]; rfl
    · refine Ev.step (f := fun k => kotatsuref01_Cut.l0 k (m : Int) ((l.take (i + 1)).take m) l (l.length : Int) ((i + 1 : Nat) : Int)) (fun k => ?_) hn
      simp only [kotatsuref01_Cut.l0]
      rw [if_pos (by omega), if_pos (by omega), if_pos (by omega), if_neg (by omega), w64 (by omega) (by omega)]
      have e : (l.take (i + 1)).take m = (l.take i).take m := by
        rw [List.take_take, List.take_take]; congr 1; omega
      rw [e]; rfl
theorem cut_ev (l : List Int) (m : Nat) (hm : m < 100000) (hl : l.length ≤ 140737488351232) : Ev (fun k => kotatsuref01_Cut.f k l (m : Int)) (l.take m) := by
  have := cut_l0 l m hm hl l.length 0 (by omega)
  simpa [kotatsuref01_Cut.f] using this

/-! ### seal_lay -/
theorem lay_f (n : Nat) : seal_lay.f (n : Int) = some (cst (lay4 n)) := by
  unfold seal_lay.f
  rfl

/-! ### bytes_Clone -/
theorem clone_f (l : List Int) (h : l.length ≤ 140737488355328) : bytes_Clone.f l = some l := by
  unfold bytes_Clone.f
  rw [if_pos h]

/-! ### bytes_Join -/
theorem bjoin_f (L : List (List Nat)) (h2 : 2 ≤ L.length) (hb : L.length ≤ 1000000) (hs : ∀ l ∈ L, small l) (hsum : L.flatten.length ≤ 140737488355328) : bytes_Join.f (L.map cst) [] = some (cst L.flatten) := by
  unfold bytes_Join.f
  have e : (L.map cst).flatten = cst L.flatten := by
    clear h2 hb hs hsum
    induction L with
    | nil => rfl
    | cons x L ih => rw [List.map_cons, List.flatten_cons, ih, List.flatten_cons, cst_append]
  have e2 : ((L.map cst).map List.length).sum = L.flatten.length := by
    rw [List.length_flatten, List.map_map]
    congr 1
    apply List.map_congr_left
    intro x _
    exact cst_length x
  have hr : ∀ xs ∈ L.map cst, ∀ x ∈ xs, 0 ≤ x ∧ x < 256 := by
    intro xs hxs x hx
    obtain ⟨l, hl, rfl⟩ := List.mem_map.1 hxs
    obtain ⟨n, hn, rfl⟩ := List.mem_map.1 hx
    have := hs l hl n hn
    omega
  rw [if_pos ⟨by simpa using h2, by simpa using hb, rfl, hr, by rw [e2]; exact hsum⟩, e]

/-! ### seal_Frame -/
theorem frame_ev (ns : List Nat) (hn : small ns) (hl : ns.length ≤ 16777216) : Ev (fun k => seal_Frame.f k (cst ns)) (cst (frameN ns)) := by
  have h4 := small_lay4 ns.length
  have hL := long_ev (lay4 ns.length ++ ns) (small_append h4 hn) (by rw [List.length_append, lay4_length]; omega)
  have hj := bjoin_f [lay4 ns.length, lay4 (longN (lay4 ns.length ++ ns)), ns] (by simp) (by simp) (by
    intro l hl
    simp only [List.mem_cons, List.not_mem_nil, or_false] at hl
    rcases hl with rfl | rfl | rfl
    · exact h4
    · exact small_lay4 _
    · exact hn) (by simp only [List.flatten_cons, List.flatten_nil, List.length_append, lay4_length, List.length_nil]; omega)
  have ef : [lay4 ns.length, lay4 (longN (lay4 ns.length ++ ns)), ns].flatten = frameN ns := by simp [frameN]
  rw [ef] at hj
  unfold seal_Frame.f
  rw [cst_length, show ((ns.length : Int) % 4294967296) = (ns.length : Int) by omega]
  have hcl := clone_f (cst (lay4 ns.length)) (by rw [cst_length, lay4_length]; omega)
  simp only [lay_f, Option.bind_some, hcl, cst_length, lay4_length, ← cst_append, show 4 + ns.length < 140737488355328 by omega, if_true]
  refine Ev.bind (f := fun k t => (seal_lay.f t).bind fun t119 => (bytes_Join.f [cst (lay4 ns.length), t119, cst ns] []).bind fun t125 => some t125) hL ?_
  simp only [lay_f, Option.bind_some]
  refine Ev.congr (f := fun _ => some (cst (frameN ns))) (fun k => ?_) (Ev.now _)
  have hj' : bytes_Join.f [cst (lay4 ns.length), cst (lay4 (longN (lay4 ns.length ++ ns))), cst ns] [] = some (cst (frameN ns)) := hj
  rw [hj']
  rfl

/-! ### seal_take -/
theorem take_f (ns : List Nat) (h : 4 ≤ ns.length) (hs : small ns) : seal_take.f (cst ns) = some ((take4 ns : Nat) : Int) := by
  have b0 := getD_small hs 0
  have b1 := getD_small hs 1
  have b2 := getD_small hs 2
  have b3 := getD_small hs 3
  have r0 : rd (cst ns) 0 = ((ns.getD 0 0 : Nat) : Int) := rd_cst ns 0
  have r1 : rd (cst ns) 1 = ((ns.getD 1 0 : Nat) : Int) := rd_cst ns 1
  have r2 : rd (cst ns) 2 = ((ns.getD 2 0 : Nat) : Int) := rd_cst ns 2
  have r3 : rd (cst ns) 3 = ((ns.getD 3 0 : Nat) : Int) := rd_cst ns 3
  unfold seal_take.f
  rw [cst_length, if_pos (by omega), if_pos (by omega), if_pos (by omega), if_pos (by omega), r0, r1, r2, r3]
  unfold take4
  generalize ns.getD 0 0 = x0 at *
  generalize ns.getD 1 0 = x1 at *
  generalize ns.getD 2 0 = x2 at *
  generalize ns.getD 3 0 = x3 at *
  rw [show ((x0 : Int) % 4294967296) = x0 by omega, show (((x1 : Int) % 4294967296 * 256) % 4294967296) = ((x1 * 256 : Nat) : Int) by omega, show (((x2 : Int) % 4294967296 * 65536) % 4294967296) = ((x2 * 65536 : Nat) : Int) by omega, show (((x3 : Int) % 4294967296 * 16777216) % 4294967296) = ((x3 * 16777216 : Nat) : Int) by omega]
  rw [u32_or8 (x := ((x1 * 256 : Nat) : Int)) (y := (x0 : Int)) (by omega) (by omega) (by omega) (by omega) (by omega)]
  rw [u32_or16 (x := ((x2 * 65536 : Nat) : Int)) (y := (x0 : Int) + ((x1 * 256 : Nat) : Int)) (by omega) (by omega) (by omega) (by omega) (by omega)]
  rw [u32_or24 (x := ((x3 * 16777216 : Nat) : Int)) (y := (x0 : Int) + ((x1 * 256 : Nat) : Int) + ((x2 * 65536 : Nat) : Int)) (by omega) (by omega) (by omega) (by omega) (by omega)]
  congr 1
  omega

/-! ### seal_Next -/
theorem next_ev (ns : List Nat) (hs : small ns) (hl : ns.length ≤ 16777216) : Ev (fun k => seal_Next.f k (cst ns)) (cst (nextN ns).1, (((nextN ns).2.1 : Nat) : Int), (((nextN ns).2.2 : Nat) : Int)) := by
  unfold seal_Next.f nextN
  rw [cst_length]
  by_cases c0 : ns.length = 0
  · rw [if_pos c0]
    refine Ev.congr (fun k => ?_) (Ev.now _)
    rw [if_pos (by omega)]; rfl
  rw [if_neg c0]
  simp only [show ¬ ((ns.length : Int) = 0) by omega, if_false]
  by_cases c1 : ns.length < 8
  · rw [if_pos c1]
    refine Ev.congr (fun k => ?_) (Ev.now _)
    rw [if_pos (by omega)]; rfl
  rw [if_neg c1]
  have ht := take4_lt hs
  simp only [show ¬ ((ns.length : Int) < 8) by omega, if_false, take_f ns (by omega) hs, Option.bind_some]
  rw [w64 (n := ((take4 ns : Nat) : Int)) (by omega) (by omega), w64 (n := (ns.length : Int) - 8) (by omega) (by omega)]
  by_cases c2 : badSize ns
  · rw [if_pos c2]
    have hj : Ev (fun k => seal_Next.j0 k (cst ns) ((take4 ns : Nat) : Int) true) (([] : List Int), (0 : Int), (2 : Int)) := by
      refine Ev.step (f := fun _ => some (([] : List Int), (0 : Int), (2 : Int))) (fun k => ?_) (Ev.now _)
      simp only [seal_Next.j0, if_true]
    refine Ev.congr (fun k => ?_) hj
    unfold badSize at c2
    by_cases c3 : ((take4 ns : Nat) : Int) > 16777216
    · rw [if_pos c3]
    · rw [if_neg c3]
      congr 1
      exact decide_eq_true (by omega)
  rw [if_neg c2]
  have hb : ¬ badSize ns := c2
  unfold badSize at c2
  have hbody : small (bodyN ns) := small_drop (small_take hs _) _
  have hlen : (bodyN ns).length = take4 ns := by unfold bodyN; rw [List.length_drop, List.length_take]; omega
  have hL := long_ev (ns.take 4 ++ bodyN ns) (small_append (small_take hs 4) hbody) (by rw [List.length_append, List.length_take, hlen]; omega)
  have hj : Ev (fun k => seal_Next.j0 k (cst ns) ((take4 ns : Nat) : Int) false) (cst (if longN (ns.take 4 ++ bodyN ns) = take4 (ns.drop 4) then (bodyN ns, 8 + take4 ns, 0) else (([] : List Nat), 0, 3)).1, (((if longN (ns.take 4 ++ bodyN ns) = take4 (ns.drop 4) then (bodyN ns, 8 + take4 ns, 0) else (([] : List Nat), 0, 3)).2.1 : Nat) : Int), (((if longN (ns.take 4 ++ bodyN ns) = take4 (ns.drop 4) then (bodyN ns, 8 + take4 ns, 0) else (([] : List Nat), 0, 3)).2.2 : Nat) : Int)) := by
    refine Ev.step (f := fun k => (seal_Long.f k (cst (ns.take 4 ++ bodyN ns))).bind fun t => if t = ((take4 (ns.drop 4) : Nat) : Int) then some (cst (bodyN ns), ((8 + take4 ns : Nat) : Int), (0 : Int)) else some (([] : List Int), (0 : Int), (3 : Int))) (fun k => ?_) ?_
    · simp only [seal_Next.j0, Bool.false_eq_true, if_false]
      rw [cst_length, if_pos (by omega), clone_f _ (by rw [List.length_take, cst_length]; omega), Option.bind_some, w64 (n := ((take4 ns : Nat) : Int)) (by omega) (by omega), w64 (n := 8 + _) (by omega) (by omega), if_pos (by omega), if_pos (by omega)]
      have e1 : (((cst ns).take ((8 + ((take4 ns : Nat) : Int)) : Int).toNat).drop 8) = cst (bodyN ns) := by
        unfold bodyN
        rw [show ((8 + ((take4 ns : Nat) : Int)) : Int).toNat = 8 + take4 ns by omega, cst_take, cst_drop]
      rw [e1, cst_take, if_pos (by rw [cst_length, cst_length, List.length_take, hlen]; omega), ← cst_append, cst_drop, take_f (ns.drop 4) (by rw [List.length_drop]; omega) (small_drop hs 4), clone_f _ (by rw [cst_length, hlen]; omega)]
      rfl
    · refine Ev.bind (f := fun k t => if t = ((take4 (ns.drop 4) : Nat) : Int) then some (cst (bodyN ns), ((8 + take4 ns : Nat) : Int), (0 : Int)) else some (([] : List Int), (0 : Int), (3 : Int))) hL ?_
      by_cases c : longN (ns.take 4 ++ bodyN ns) = take4 (ns.drop 4)
      · simp only [c, if_true]; exact Ev.now _
      · simp only [c, if_false, show ¬ (((longN (ns.take 4 ++ bodyN ns) : Nat) : Int) = ((take4 (ns.drop 4) : Nat) : Int)) from fun h => c (by omega)]; exact Ev.now _
  refine Ev.congr (fun k => ?_) hj
  rw [if_neg (by omega)]
  congr 1
  exact decide_eq_false (by omega)

theorem next_cut (ns : List Nat) (hl : ns.length ≤ 100) (k : Nat) (hk : k < 8 + ns.length) (h0 : 0 < k) : nextN ((frameN ns).take k) = ([], 0, 2) := by
  have hfl := frameN_length ns
  have hlen : ((frameN ns).take k).length = k := by rw [List.length_take]; omega
  unfold nextN
  rw [hlen, if_neg (by omega)]
  by_cases c : k < 8
  · rw [if_pos c]
  · rw [if_neg c, if_pos]
    right
    rw [hlen, take4_take _ k (by omega), frame_head ns (by omega)]
    omega
theorem SealCuts : kotatsulaw02_SealCuts.Pure := by
  intro l0 a1 _ hl0 hw0 hw1
  obtain ⟨ns, rfl, hs⟩ := cst_of l0 hw0
  rw [cst_length] at hl0
  have h1 : 0 ≤ a1 ∧ a1 ≤ 255 := by simpa [Lit.wf, IntKind.min, IntKind.max, IntKind.signed, IntKind.bits] using hw1
  obtain ⟨a, rfl⟩ := Int.eq_ofNat_of_zero_le h1.1
  have hc := cut_ev (cst ns) 100 (by decide) (by rw [cst_length]; omega)
  rw [cst_take] at hc
  have hs' := small_take hs 100
  have hlen : (ns.take 100).length ≤ 100 := List.length_take_le _ _
  generalize ns.take 100 = p at *
  have hfl := frameN_length p
  refine Ev.rounds (Ev.bind (f := fun k t => if t = true then _ else _) awake_ev ?_)
  simp only [if_true]
  refine Ev.bind (f := fun k t => _) hc ?_
  refine Ev.bind (f := fun k t => _) (frame_ev p hs' (by omega)) ?_
  have e1 : Int.tmod (wrap64 (a : Int)) ((cst (frameN p)).length : Int) = ((a % (frameN p).length : Nat) : Int) := by
    rw [w64 (by omega) (by omega), cst_length, Int.tmod_eq_emod_of_nonneg (by omega)]
    exact (Int.natCast_emod _ _).symm
  have hlt : a % (frameN p).length < (frameN p).length := Nat.mod_lt _ (by omega)
  rw [e1]
  generalize a % (frameN p).length = m at *
  have hn := next_ev ((frameN p).take m) (small_take (small_frameN hs') m) (by rw [List.length_take]; omega)
  rw [cst_length]
  simp only [show ¬ (((frameN p).length : Int) = 0) by omega, if_false, show (0 : Int) ≤ (m : Int) by omega, show (m : Int) ≤ ((frameN p).length : Int) by omega, if_true, Int.toNat_natCast, cst_take]
  refine Ev.bind (f := fun k t => _) hn ?_
  by_cases c : m = 0
  · subst c
    have e : nextN ((frameN p).take 0) = ([], 0, 4) := rfl
    rw [e]
    exact Ev.now _
  · rw [next_cut p hlen m (by omega) (by omega)]
    simp only [show ¬ ((m : Int) = 0) by omega, if_false]
    exact Ev.now _

end Go.Proofs.Ytinoijjbkbmmdaa.Pure
