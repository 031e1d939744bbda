/- SealFrames: a frame is the document's bytes, of which it is taken again, whatever stands behind: for every input. No condition. -/
import Derived.Test.YtinoijjbkbmmdaaPSealFramesx3
import Derived.Test.YtinoijjbkbmmdaaU
namespace Go.Proofs.Ytinoijjbkbmmdaa.Pure
open Go.RowKit Go.Proofs.Ytinoijjbkbmmdaa.PSealFrames Go.Proofs.Ytinoijjbkbmmdaa.U Go.Proofs.YtinoijjbkbmmdaaW.PrintWords Go.Proofs.YtinoijjbkbmmdaaW.PrintLast Go.Proofs.YtinoijjbkbmmdaaW.PrintMore
set_option linter.unusedVariables false
set_option linter.unusedSimpArgs false

/-! ### seal_Long -/
theorem long_step (s : Nat) (hs : s < 4294967296) : Go.bits .xor .u32 ((s : Int) / 2) ((3988292384 * (Go.bits .and .u32 (s : Int) 1)) % 4294967296) = ((Crc.F s : Nat) : Int) := by
  rw [and1_u32 s hs]
  have h2 : s % 2 = 0 ∨ s % 2 = 1 := by omega
  have e : (3988292384 * ((s % 2 : Nat) : Int)) % 4294967296 = ((3988292384 * (s % 2) : Nat) : Int) := by
    rcases h2 with h | h <;> rw [h] <;> decide
  rw [e, show ((s : Int) / 2) = ((s / 2 : Nat) : Int) by omega, xor_u32 _ _ (by omega) (by rcases h2 with h | h <;> rw [h] <;> decide)]
  rfl
theorem long_l1 (L : List Int) (n i : Int) (hi : 0 ≤ i) (hi2 : i < 9223372036854775807) (r : Int) (j : Nat) : ∀ s : Nat, s < 4294967296 → j ≤ 8 →
    Ev (fun k => seal_Long.l0 k ((Crc.Fn j s : Nat) : Int) L n (i + 1)) r → Ev (fun k => seal_Long.l1 k (s : Int) L n i ((8 - j : Nat) : Int)) r := by
  induction j with
  | zero =>
    intro s hs _ h
    refine Ev.step (f := fun k => seal_Long.l0 k (s : Int) L n (i + 1)) (fun k => ?_) h
    simp only [seal_Long.l1]
    rw [if_neg (by omega), w64 (by omega) (by omega)]
  | succ j ih =>
    intro s hs hj h
    refine Ev.step (f := fun k => seal_Long.l1 k ((Crc.F s : Nat) : Int) L n i ((8 - j : Nat) : Int)) (fun k => ?_) (ih _ (Crc.F_lt hs) (by omega) h)
    simp only [seal_Long.l1]
    rw [if_pos (by omega), long_step s hs, w64 (by omega) (by omega)]
    congr 1
    omega
theorem long_l0 (ns : List Nat) (hn : small ns) (hl : ns.length ≤ 140737488351232) (d : Nat) : ∀ i s : Nat, i + d = ns.length → s < 4294967296 →
    Ev (fun k => seal_Long.l0 k (s : Int) (cst ns) (ns.length : Int) (i : Int)) ((4294967295 - Crc.feed s (bitsL (ns.drop i)) : Nat) : Int) := by
  induction d with
  | zero =>
    intro i s hi hs
    refine Ev.step (f := fun _ => some ((4294967295 - s : Nat) : Int)) (fun k => ?_) ?_
    · simp only [seal_Long.l0]
      rw [if_neg (by omega)]
      have := xor_u32 4294967295 s (by omega) hs
      rw [not_u32 s hs] at this
      exact congrArg some this
    · rw [List.drop_eq_nil_of_le (by omega)]
      exact Ev.now _
  | succ d ih =>
    intro i s hi hs
    have hb := getD_small hn i
    have hx : s ^^^ ns.getD i 0 < 4294967296 := Nat.xor_lt_two_pow (n := 32) hs (by omega)
    have h1 := ih (i + 1) (Crc.Fn 8 (s ^^^ ns.getD i 0)) (by omega) (Crc.Fn_lt 8 _ hx)
    have h2 : Ev (fun k => seal_Long.l0 k ((Crc.Fn 8 (s ^^^ ns.getD i 0) : Nat) : Int) (cst ns) (ns.length : Int) ((i : Int) + 1)) ((4294967295 - Crc.feed (Crc.Fn 8 (s ^^^ ns.getD i 0)) (bitsL (ns.drop (i + 1))) : Nat) : Int) := h1
    have h3 := long_l1 (cst ns) (ns.length : Int) (i : Int) (by omega) (by omega) _ 8 _ hx (by omega) h2
    rw [drop_getD ns i (by omega), bitsL_cons, Crc.feed_append, ← feed_byte s _ hb]
    refine Ev.step (f := fun k => seal_Long.l1 k ((s ^^^ ns.getD i 0 : Nat) : Int) (cst ns) (ns.length : Int) (i : Int) ((8 - 8 : Nat) : Int)) (fun k => ?_) h3
    simp only [seal_Long.l0]
    rw [if_pos (by omega), if_pos (by omega), if_pos (by rw [cst_length]; omega), rd_cst, Int.emod_eq_of_lt (by omega) (by omega), xor_u32 s _ hs (by omega)]
    rfl
theorem long_ev (ns : List Nat) (hn : small ns) (hl : ns.length ≤ 140737488351232) : Ev (fun k => seal_Long.f k (cst ns)) ((longN ns : Nat) : Int) := by
  have := long_l0 ns hn hl ns.length 0 4294967295 (by omega) (by omega)
  rw [List.drop_zero] at this
  unfold seal_Long.f
  rw [cst_length]
  exact this

/-! ### kotatsulaw02_awake -/
theorem awake_ev : Ev (fun k => kotatsulaw02_awake.f k) true := by
  have h := long_ev [49, 50, 51, 52, 53, 54, 55, 56, 57] (by intro n hn; simp at hn; omega) (by decide)
  have e : longN [49, 50, 51, 52, 53, 54, 55, 56, 57] = 3421780262 := by decide +kernel
  rw [e] at h
  exact Ev.bind (f := fun _ t => some (t == 3421780262)) h (Ev.now _)

/-! ### kotatsuref01_Cut -/
theorem cut_l0 (l : List Int) (m : Nat) (hm : m < 100000) (hl : l.length ≤ 140737488351232) (d : Nat) : ∀ i : Nat, i + d = l.length → Ev (fun k => kotatsuref01_Cut.l0 k (m : Int) ((l.take i).take m) l (l.length : Int) (i : Int)) (l.take m) := by
  induction d with
  | zero =>
    intro i hi
    refine Ev.step (f := fun _ => some (l.take m)) (fun k => ?_) (Ev.now _)
    simp only [kotatsuref01_Cut.l0]
    rw [if_neg (by omega), List.take_of_length_le (show l.length ≤ i by omega)]
  | succ d ih =>
    intro i hi
    have hn := ih (i + 1) (by omega)
    have hlen : ((l.take i).take m).length ≤ i := by simp only [List.length_take]; omega
    have hget : l.take (i + 1) = l.take i ++ [rd l (i : Int)] := by
      unfold rd
      rw [List.take_succ_eq_append_getElem (by omega), List.getD_eq_getElem?_getD, Int.toNat_natCast, List.getElem?_eq_getElem (by omega)]; rfl
    by_cases c : i < m
    · refine Ev.step (f := fun k => kotatsuref01_Cut.l0 k (m : Int) ((l.take (i + 1)).take m) l (l.length : Int) ((i + 1 : Nat) : Int)) (fun k => ?_) hn
      simp only [kotatsuref01_Cut.l0]
      rw [if_pos (by omega), if_pos (by omega), if_pos (by omega), if_pos (by omega), if_pos (by omega), w64 (by omega) (by omega)]
      have e : (l.take (i + 1)).take m = (l.take i).take m ++ [rd l (i : Int)] := by
        rw [hget, List.take_append, List.take_of_length_le (l := [rd l (i : Int)]) (by simp only [List.length_take, List.length_cons, List.length_nil]; omega)]
      rw [e]; rfl
    · refine Ev.step (f := fun k => kotatsuref01_Cut.l0 k (m : Int) ((l.take (i + 1)).take m) l (l.length : Int) ((i + 1 : Nat) : Int)) (fun k => ?_) hn
      simp only [kotatsuref01_Cut.l0]
      rw [if_pos (by omega), if_pos (by omega), if_pos (by omega), if_neg (by omega), w64 (by omega) (by omega)]
      have e : (l.take (i + 1)).take m = (l.take i).take m := by
        rw [List.take_take, List.take_take]; congr 1; omega
      rw [e]; rfl
theorem cut_ev (l : List Int) (m : Nat) (hm : m < 100000) (hl : l.length ≤ 140737488351232) : Ev (fun k => kotatsuref01_Cut.f k l (m : Int)) (l.take m) := by
  have := cut_l0 l m hm hl l.length 0 (by omega)
  simpa [kotatsuref01_Cut.f] using this

/-! ### kotatsuref01_Join -/
theorem join_l0 (L : List (List Int)) (hl : L.length < 1000000000) (hsum : L.flatten.length < 140737488355328) (d : Nat) : ∀ i : Nat, i + d = L.length →
    Ev (fun k => kotatsuref01_Join.l0 k (L.take i).flatten L (L.length : Int) (i : Int)) L.flatten := by
  induction d with
  | zero =>
    intro i hi
    rw [List.take_of_length_le (by omega)]
    refine Ev.step (f := fun _ => some L.flatten) (fun k => ?_) (Ev.now _)
    simp only [kotatsuref01_Join.l0]
    rw [if_neg (by omega)]
  | succ d ih =>
    intro i hi
    have e : (L.take (i + 1)).flatten = (L.take i).flatten ++ rd_L2 L (i : Int) := by
      rw [List.take_succ_eq_append_getElem (by omega), List.flatten_append]
      unfold rd_L2
      rw [List.getD_eq_getElem?_getD, Int.toNat_natCast, List.getElem?_eq_getElem (by omega)]
      simp
    have hle : ((L.take (i + 1)).flatten).length ≤ L.flatten.length := by
      have : L.flatten = (L.take (i + 1)).flatten ++ (L.drop (i + 1)).flatten := by rw [← List.flatten_append, List.take_append_drop]
      rw [this, List.length_append]; omega
    rw [e, List.length_append] at hle
    have h1 := ih (i + 1) (by omega)
    rw [e] at h1
    refine Ev.step (f := fun k => kotatsuref01_Join.l0 k ((L.take i).flatten ++ rd_L2 L (i : Int)) L (L.length : Int) ((i + 1 : Nat) : Int)) (fun k => ?_) h1
    simp only [kotatsuref01_Join.l0]
    rw [if_pos (by omega), if_pos (by omega), if_pos (by omega), if_pos (by omega), w64 (by omega) (by omega)]
    rfl
theorem join_ev (L : List (List Int)) (hl : L.length < 1000000000) (hsum : L.flatten.length < 140737488355328) : Ev (fun k => kotatsuref01_Join.f k L) L.flatten := by
  have := join_l0 L hl hsum L.length 0 (by omega)
  simpa [kotatsuref01_Join.f] using this

/-! ### seal_lay -/
theorem lay_f (n : Nat) : seal_lay.f (n : Int) = some (cst (lay4 n)) := by
  unfold seal_lay.f
  rfl

/-! ### bytes_Clone -/
theorem clone_f (l : List Int) (h : l.length ≤ 140737488355328) : bytes_Clone.f l = some l := by
  unfold bytes_Clone.f
  rw [if_pos h]

/-! ### bytes_Join -/
theorem bjoin_f (L : List (List Nat)) (h2 : 2 ≤ L.length) (hb : L.length ≤ 1000000) (hs : ∀ l ∈ L, small l) (hsum : L.flatten.length ≤ 140737488355328) : bytes_Join.f (L.map cst) [] = some (cst L.flatten) := by
  unfold bytes_Join.f
  have e : (L.map cst).flatten = cst L.flatten := by
    clear h2 hb hs hsum
    induction L with
    | nil => rfl
    | cons x L ih => rw [List.map_cons, List.flatten_cons, ih, List.flatten_cons, cst_append]
  have e2 : ((L.map cst).map List.length).sum = L.flatten.length := by
    rw [List.length_flatten, List.map_map]
    congr 1
    apply List.map_congr_left
    intro x _
    exact cst_length x
  have hr : ∀ xs ∈ L.map cst, ∀ x ∈ xs, 0 ≤ x ∧ x < 256 := by
    intro xs hxs x hx
    obtain ⟨l, hl, rfl⟩ := List.mem_map.1 hxs
    obtain ⟨n, hn, rfl⟩ := List.mem_map.1 hx
    have := hs l hl n hn
    omega
  rw [if_pos ⟨by simpa using h2, by simpa using hb, rfl, hr, by rw [e2]; exact hsum⟩, e]

/-! ### seal_Frame -/
theorem frame_ev (ns : List Nat) (hn : small ns) (hl : ns.length ≤ 16777216) : Ev (fun k => seal_Frame.f k (cst ns)) (cst (frameN ns)) := by
  have h4 := small_lay4 ns.length
  have hL := long_ev (lay4 ns.length ++ ns) (small_append h4 hn) (by rw [List.length_append, lay4_length]; omega)
  have hj := bjoin_f [lay4 ns.length, lay4 (longN (lay4 ns.length ++ ns)), ns] (by simp) (by simp) (by
    intro l hl
    simp only [List.mem_cons, List.not_mem_nil, or_false] at hl
    rcases hl with rfl | rfl | rfl
    · exact h4
    · exact small_lay4 _
    · exact hn) (by simp only [List.flatten_cons, List.flatten_nil, List.length_append, lay4_length, List.length_nil]; omega)
  have ef : [lay4 ns.length, lay4 (longN (lay4 ns.length ++ ns)), ns].flatten = frameN ns := by simp [frameN]
  rw [ef] at hj
  unfold seal_Frame.f
  rw [cst_length, show ((ns.length : Int) % 4294967296) = (ns.length : Int) by omega]
  have hcl := clone_f (cst (lay4 ns.length)) (by rw [cst_length, lay4_length]; omega)
  simp only [lay_f, Option.bind_some, hcl, cst_length, lay4_length, ← cst_append, show 4 + ns.length < 140737488355328 by omega, if_true]
  refine Ev.bind (f := fun k t => (seal_lay.f t).bind fun t119 => (bytes_Join.f [cst (lay4 ns.length), t119, cst ns] []).bind fun t125 => some t125) hL ?_
  simp only [lay_f, Option.bind_some]
  refine Ev.congr (f := fun _ => some (cst (frameN ns))) (fun k => ?_) (Ev.now _)
  have hj' : bytes_Join.f [cst (lay4 ns.length), cst (lay4 (longN (lay4 ns.length ++ ns))), cst ns] [] = some (cst (frameN ns)) := hj
  rw [hj']
  rfl

/-! ### seal_take -/
theorem take_f (ns : List Nat) (h : 4 ≤ ns.length) (hs : small ns) : seal_take.f (cst ns) = some ((take4 ns : Nat) : Int) := by
  have b0 := getD_small hs 0
  have b1 := getD_small hs 1
  have b2 := getD_small hs 2
  have b3 := getD_small hs 3
  have r0 : rd (cst ns) 0 = ((ns.getD 0 0 : Nat) : Int) := rd_cst ns 0
  have r1 : rd (cst ns) 1 = ((ns.getD 1 0 : Nat) : Int) := rd_cst ns 1
  have r2 : rd (cst ns) 2 = ((ns.getD 2 0 : Nat) : Int) := rd_cst ns 2
  have r3 : rd (cst ns) 3 = ((ns.getD 3 0 : Nat) : Int) := rd_cst ns 3
  unfold seal_take.f
  rw [cst_length, if_pos (by omega), if_pos (by omega), if_pos (by omega), if_pos (by omega), r0, r1, r2, r3]
  unfold take4
  generalize ns.getD 0 0 = x0 at *
  generalize ns.getD 1 0 = x1 at *
  generalize ns.getD 2 0 = x2 at *
  generalize ns.getD 3 0 = x3 at *
  rw [show ((x0 : Int) % 4294967296) = x0 by omega, show (((x1 : Int) % 4294967296 * 256) % 4294967296) = ((x1 * 256 : Nat) : Int) by omega, show (((x2 : Int) % 4294967296 * 65536) % 4294967296) = ((x2 * 65536 : Nat) : Int) by omega, show (((x3 : Int) % 4294967296 * 16777216) % 4294967296) = ((x3 * 16777216 : Nat) : Int) by omega]
  rw [u32_or8 (x := ((x1 * 256 : Nat) : Int)) (y := (x0 : Int)) (by omega) (by omega) (by omega) (by omega) (by omega)]
  rw [u32_or16 (x := ((x2 * 65536 : Nat) : Int)) (y := (x0 : Int) + ((x1 * 256 : Nat) : Int)) (by omega) (by omega) (by omega) (by omega) (by omega)]
  rw [u32_or24 (x := ((x3 * 16777216 : Nat) : Int)) (y := (x0 : Int) + ((x1 * 256 : Nat) : Int) + ((x2 * 65536 : Nat) : Int)) (by omega) (by omega) (by omega) (by omega) (by omega)]
  congr 1
  omega

/-! ### seal_Next -/
theorem next_ev (ns : List Nat) (hs : small ns) (hl : ns.length ≤ 16777216) : Ev (fun k => seal_Next.f k (cst ns)) (cst (nextN ns).1, (((nextN ns).2.1 : Nat) : Int), (((nextN ns).2.2 : Nat) : Int)) := by
  unfold seal_Next.f nextN
  rw [cst_length]
  by_cases c0 : ns.length = 0
  · rw [if_pos c0]
    refine Ev.congr (fun k => ?_) (Ev.now _)
    rw [if_pos (by omega)]; rfl
  rw [if_neg c0]
  simp only [show ¬ ((ns.length : Int) = 0) by omega, if_false]
  by_cases c1 : ns.length < 8
  · rw [if_pos c1]
    refine Ev.congr (fun k => ?_) (Ev.now _)
    rw [if_pos (by omega)]; rfl
  rw [if_neg c1]
  have ht := take4_lt hs
  simp only [show ¬ ((ns.length : Int) < 8) by omega, if_false, take_f ns (by omega) hs, Option.bind_some]
  rw [w64 (n := ((take4 ns : Nat) : Int)) (by omega) (by omega), w64 (n := (ns.length : Int) - 8) (by omega) (by omega)]
  by_cases c2 : badSize ns
  · rw [if_pos c2]
    have hj : Ev (fun k => seal_Next.j0 k (cst ns) ((take4 ns : Nat) : Int) true) (([] : List Int), (0 : Int), (2 : Int)) := by
      refine Ev.step (f := fun _ => some (([] : List Int), (0 : Int), (2 : Int))) (fun k => ?_) (Ev.now _)
      simp only [seal_Next.j0, if_true]
    refine Ev.congr (fun k => ?_) hj
    unfold badSize at c2
    by_cases c3 : ((take4 ns : Nat) : Int) > 16777216
    · rw [if_pos c3]
    · rw [if_neg c3]
      congr 1
      exact decide_eq_true (by omega)
  rw [if_neg c2]
  have hb : ¬ badSize ns := c2
  unfold badSize at c2
  have hbody : small (bodyN ns) := small_drop (small_take hs _) _
  have hlen : (bodyN ns).length = take4 ns := by unfold bodyN; rw [List.length_drop, List.length_take]; omega
  have hL := long_ev (ns.take 4 ++ bodyN ns) (small_append (small_take hs 4) hbody) (by rw [List.length_append, List.length_take, hlen]; omega)
  have hj : Ev (fun k => seal_Next.j0 k (cst ns) ((take4 ns : Nat) : Int) false) (cst (if longN (ns.take 4 ++ bodyN ns) = take4 (ns.drop 4) then (bodyN ns, 8 + take4 ns, 0) else (([] : List Nat), 0, 3)).1, (((if longN (ns.take 4 ++ bodyN ns) = take4 (ns.drop 4) then (bodyN ns, 8 + take4 ns, 0) else (([] : List Nat), 0, 3)).2.1 : Nat) : Int), (((if longN (ns.take 4 ++ bodyN ns) = take4 (ns.drop 4) then (bodyN ns, 8 + take4 ns, 0) else (([] : List Nat), 0, 3)).2.2 : Nat) : Int)) := by
    refine Ev.step (f := fun k => (seal_Long.f k (cst (ns.take 4 ++ bodyN ns))).bind fun t => if t = ((take4 (ns.drop 4) : Nat) : Int) then some (cst (bodyN ns), ((8 + take4 ns : Nat) : Int), (0 : Int)) else some (([] : List Int), (0 : Int), (3 : Int))) (fun k => ?_) ?_
    · simp only [seal_Next.j0, Bool.false_eq_true, if_false]
      rw [cst_length, if_pos (by omega), clone_f _ (by rw [List.length_take, cst_length]; omega), Option.bind_some, w64 (n := ((take4 ns : Nat) : Int)) (by omega) (by omega), w64 (n := 8 + _) (by omega) (by omega), if_pos (by omega), if_pos (by omega)]
      have e1 : (((cst ns).take ((8 + ((take4 ns : Nat) : Int)) : Int).toNat).drop 8) = cst (bodyN ns) := by
        unfold bodyN
        rw [show ((8 + ((take4 ns : Nat) : Int)) : Int).toNat = 8 + take4 ns by omega, cst_take, cst_drop]
      rw [e1, cst_take, if_pos (by rw [cst_length, cst_length, List.length_take, hlen]; omega), ← cst_append, cst_drop, take_f (ns.drop 4) (by rw [List.length_drop]; omega) (small_drop hs 4), clone_f _ (by rw [cst_length, hlen]; omega)]
      rfl
    · refine Ev.bind (f := fun k t => if t = ((take4 (ns.drop 4) : Nat) : Int) then some (cst (bodyN ns), ((8 + take4 ns : Nat) : Int), (0 : Int)) else some (([] : List Int), (0 : Int), (3 : Int))) hL ?_
      by_cases c : longN (ns.take 4 ++ bodyN ns) = take4 (ns.drop 4)
      · simp only [c, if_true]; exact Ev.now _
      · simp only [c, if_false, show ¬ (((longN (ns.take 4 ++ bodyN ns) : Nat) : Int) = ((take4 (ns.drop 4) : Nat) : Int)) from fun h => c (by omega)]; exact Ev.now _
  refine Ev.congr (fun k => ?_) hj
  rw [if_neg (by omega)]
  congr 1
  exact decide_eq_false (by omega)

/-! ### kotatsuref01_Same -/
theorem same_l0 (a b : List Int) (hl : a.length = b.length) (hm : a.length ≤ 140737488355328) (d : Nat) : ∀ i : Nat, i + d = a.length →
    Ev (fun k => kotatsuref01_Same.l0 k a b (a.length : Int) (i : Int)) (decide (a.drop i = b.drop i)) := by
  induction d with
  | zero =>
    intro i hi
    rw [List.drop_eq_nil_of_le (by omega), List.drop_eq_nil_of_le (by omega)]
    refine Ev.step (f := fun _ => some true) (fun k => ?_) (Ev.now _)
    simp only [kotatsuref01_Same.l0]
    rw [if_neg (by omega)]
  | succ d ih =>
    intro i hi
    have ha : a.drop i = rd a (i : Int) :: a.drop (i + 1) := by
      unfold rd
      rw [List.drop_eq_getElem_cons (by omega), List.getD_eq_getElem?_getD, Int.toNat_natCast, List.getElem?_eq_getElem (by omega)]; rfl
    have hb : b.drop i = rd b (i : Int) :: b.drop (i + 1) := by
      unfold rd
      rw [List.drop_eq_getElem_cons (by omega), List.getD_eq_getElem?_getD, Int.toNat_natCast, List.getElem?_eq_getElem (by omega)]; rfl
    by_cases c : rd a (i : Int) = rd b (i : Int)
    · have h1 := ih (i + 1) (by omega)
      have e : decide (a.drop i = b.drop i) = decide (a.drop (i + 1) = b.drop (i + 1)) := by
        rw [ha, hb, c]; simp
      rw [e]
      refine Ev.step (f := fun k => kotatsuref01_Same.l0 k a b (a.length : Int) ((i + 1 : Nat) : Int)) (fun k => ?_) h1
      simp only [kotatsuref01_Same.l0]
      rw [if_pos (by omega), if_pos (by omega), if_pos (by omega), if_pos (by omega), if_pos c, w64 (by omega) (by omega)]
      rfl
    · have e : decide (a.drop i = b.drop i) = false := by
        rw [ha, hb]; simp [c]
      rw [e]
      refine Ev.step (f := fun _ => some false) (fun k => ?_) (Ev.now _)
      simp only [kotatsuref01_Same.l0]
      rw [if_pos (by omega), if_pos (by omega), if_pos (by omega), if_pos (by omega), if_neg c]
theorem same_ev (a b : List Int) (hm : a.length ≤ 140737488355328) : Ev (fun k => kotatsuref01_Same.f k a b) (decide (a = b)) := by
  unfold kotatsuref01_Same.f
  by_cases c : a.length = b.length
  · have := same_l0 a b c hm a.length 0 (by omega)
    refine Ev.congr (fun k => ?_) this
    rw [if_pos (by omega)]
    rfl
  · have e : decide (a = b) = false := decide_eq_false (fun h => c (by rw [h]))
    rw [e]
    refine Ev.congr (fun k => ?_) (Ev.now _)
    rw [if_neg (by omega)]

/-! ### kotatsuref02_bits -/
theorem bits_l1 (x3 L : List Int) (n i : Int) (hi : 0 ≤ i) (hi2 : i < 9223372036854775807) (r : List Int) (j : Nat) : ∀ (xs : List Nat) (b : Nat), b < 256 → j ≤ 8 → xs.length + j < 17592186044416 →
    Ev (fun k => kotatsuref02_bits.l0 k (cst (xs ++ Crc.bitsOf j b)) L n (i + 1)) r → Ev (fun k => kotatsuref02_bits.l1 k (cst xs) (b : Int) ((8 - j : Nat) : Int) L n i) r := by
  induction j with
  | zero =>
    intro xs b hb _ hx h
    rw [Crc.bitsOf, List.append_nil] at h
    refine Ev.step (f := fun k => kotatsuref02_bits.l0 k (cst xs) L n (i + 1)) (fun k => ?_) h
    simp only [kotatsuref02_bits.l1]
    rw [if_neg (by omega), w64 (by omega) (by omega)]
  | succ j ih =>
    intro xs b hb hj hx h
    have e1 : Int.tmod (b : Int) 2 = ((b % 2 : Nat) : Int) := by rw [Int.tmod_eq_emod_of_nonneg (by omega)]; omega
    have e2 : Int.tdiv (b : Int) 2 = ((b / 2 : Nat) : Int) := by rw [Int.tdiv_eq_ediv_of_nonneg (by omega)]; omega
    have h' : Ev (fun k => kotatsuref02_bits.l0 k (cst ((xs ++ [b % 2]) ++ Crc.bitsOf j (b / 2))) L n (i + 1)) r := by
      rw [List.append_assoc]; exact h
    refine Ev.step (f := fun k => kotatsuref02_bits.l1 k (cst (xs ++ [b % 2])) ((b / 2 : Nat) : Int) ((8 - j : Nat) : Int) L n i) (fun k => ?_) (ih (xs ++ [b % 2]) (b / 2) (by omega) (by omega) (by simp; omega) h')
    simp only [kotatsuref02_bits.l1]
    rw [if_pos (by omega), if_pos (by rw [cst_length]; omega), e1, e2, w64 (n := ((b / 2 : Nat) : Int)) (by omega) (by omega), w64 (by omega) (by omega), cst_append]
    congr 1
    omega
theorem bits_l0 (ns : List Nat) (hn : small ns) (hl : ns.length < 1000000000) (d : Nat) : ∀ i : Nat, i + d = ns.length →
    Ev (fun k => kotatsuref02_bits.l0 k (cst (bitsL (ns.take i))) (cst ns) (ns.length : Int) (i : Int)) (cst (bitsL ns)) := by
  induction d with
  | zero =>
    intro i hi
    rw [List.take_of_length_le (by omega)]
    refine Ev.step (f := fun _ => some (cst (bitsL ns))) (fun k => ?_) (Ev.now _)
    simp only [kotatsuref02_bits.l0]
    rw [if_neg (by omega)]
  | succ d ih =>
    intro i hi
    have hb := getD_small hn i
    have h1 := ih (i + 1) (by omega)
    rw [take_getD ns i (by omega), bitsL_append] at h1
    have h2 : Ev (fun k => kotatsuref02_bits.l0 k (cst (bitsL (ns.take i) ++ Crc.bitsOf 8 (ns.getD i 0))) (cst ns) (ns.length : Int) ((i : Int) + 1)) (cst (bitsL ns)) := by
      have e : bitsL [ns.getD i 0] = Crc.bitsOf 8 (ns.getD i 0) := by simp [bitsL]
      rw [e] at h1
      exact h1
    have h3 := bits_l1 [] (cst ns) (ns.length : Int) (i : Int) (by omega) (by omega) _ 8 (bitsL (ns.take i)) (ns.getD i 0) hb (by omega) (by rw [bitsL_length, List.length_take]; omega) h2
    refine Ev.step (f := fun k => kotatsuref02_bits.l1 k (cst (bitsL (ns.take i))) ((ns.getD i 0 : Nat) : Int) ((8 - 8 : Nat) : Int) (cst ns) (ns.length : Int) (i : Int)) (fun k => ?_) h3
    simp only [kotatsuref02_bits.l0]
    rw [if_pos (by omega), if_pos (by omega), if_pos (by rw [cst_length]; omega), rd_cst, w64 (by omega) (by omega)]
    rfl
theorem bits_ev (ns : List Nat) (hn : small ns) (hl : ns.length < 1000000000) : Ev (fun k => kotatsuref02_bits.f k (cst ns)) (cst (bitsL ns)) := by
  have := bits_l0 ns hn hl ns.length 0 (by omega)
  unfold kotatsuref02_bits.f
  rw [cst_length]
  exact this

/-! ### kotatsuref02_Long -/
theorem rlong_l0 (bs : List Nat) (hb : ∀ x ∈ bs, x < 2) (hl : bs.length < 10000000000) (d : Nat) : ∀ i s : Nat, i + d = bs.length → s < 4294967296 →
    Ev (fun k => kotatsuref02_Long.l0 k (s : Int) (cst bs) (bs.length : Int) (i : Int)) ((4294967295 - Crc.feed s (bs.drop i) : Nat) : Int) := by
  induction d with
  | zero =>
    intro i s hi hs
    refine Ev.step (f := fun _ => some ((4294967295 - s : Nat) : Int)) (fun k => ?_) ?_
    · simp only [kotatsuref02_Long.l0]
      rw [if_neg (by omega), wu64 (by omega) (by omega)]
      congr 1
      omega
    · rw [List.drop_eq_nil_of_le (by omega)]
      exact Ev.now _
  | succ d ih =>
    intro i s hi hs
    have hb2 : bs.getD i 0 < 2 := by
      rw [List.getD_eq_getElem?_getD, List.getElem?_eq_getElem (by omega)]
      exact hb _ (List.getElem_mem _)
    have hx : s ^^^ bs.getD i 0 < 4294967296 := Nat.xor_lt_two_pow (n := 32) hs (by omega)
    have hF := Crc.F_lt (s := s ^^^ bs.getD i 0) hx
    have h1 := ih (i + 1) (Crc.F (s ^^^ bs.getD i 0)) (by omega) hF
    rw [drop_getD bs i (by omega)]
    refine Ev.step (f := fun k => kotatsuref02_Long.l0 k ((Crc.F (s ^^^ bs.getD i 0) : Nat) : Int) (cst bs) (bs.length : Int) ((i + 1 : Nat) : Int)) (fun k => ?_) h1
    simp only [kotatsuref02_Long.l0]
    rw [if_pos (by omega), if_pos (by omega), if_pos (by rw [cst_length]; omega), rd_cst, wu64 (n := ((bs.getD i 0 : Nat) : Int)) (by omega) (by omega), wu64 (n := (s : Int) + _) (by omega) (by omega)]
    have e1 : Int.tmod ((s : Int) + ((bs.getD i 0 : Nat) : Int)) 2 = (((s + bs.getD i 0) % 2 : Nat) : Int) := by rw [Int.tmod_eq_emod_of_nonneg (by omega)]; omega
    have e2 : Int.tdiv (s : Int) 2 = ((s / 2 : Nat) : Int) := by rw [Int.tdiv_eq_ediv_of_nonneg (by omega)]; omega
    rw [e1, e2, ref_bit s _ hb2, wu64 (n := ((s / 2 : Nat) : Int)) (by omega) (by omega), w64 (by omega) (by omega)]
    by_cases c : (s + bs.getD i 0) % 2 = 1
    · rw [if_pos (by omega), if_pos c]
      have := xor_u64 (s / 2) 3988292384 (by omega) (by decide)
      rw [show (3988292384 : Int) = ((3988292384 : Nat) : Int) from rfl, this]
      rfl
    · rw [if_neg (by omega), if_neg c]
      rfl
theorem rlong_ev (ns : List Nat) (hn : small ns) (hl : ns.length < 1000000000) : Ev (fun k => kotatsuref02_Long.f k (cst ns)) ((longN ns : Nat) : Int) := by
  have h := rlong_l0 (bitsL ns) (bitsL_lt ns) (by rw [bitsL_length]; omega) (bitsL ns).length 0 4294967295 (by omega) (by omega)
  unfold kotatsuref02_Long.f
  refine Ev.bind (f := fun k (t : List Int) => kotatsuref02_Long.l0 k 4294967295 t (t.length : Int) 0) (bits_ev ns hn hl) ?_
  rw [cst_length]
  exact h

/-! ### kotatsuref02_Lay -/
def layT : Nat → Nat → List Nat
  | 0, _ => []
  | j + 1, n => n % 256 :: layT j (n / 256)
theorem rlay_l0 (m : Nat) (hm : m ≤ 8) (j : Nat) : ∀ (n : Nat) (acc : List Nat), n < 18446744073709551616 → j ≤ m → acc.length + j ≤ 8 →
    Ev (fun k => kotatsuref02_Lay.l0 k (n : Int) (m : Int) (cst acc) ((m - j : Nat) : Int)) (cst (acc ++ layT j n)) := by
  induction j with
  | zero =>
    intro n acc hn _ ha
    rw [layT, List.append_nil]
    refine Ev.step (f := fun _ => some (cst acc)) (fun k => ?_) (Ev.now _)
    simp only [kotatsuref02_Lay.l0]
    rw [if_neg (by omega)]
  | succ j ih =>
    intro n acc hn hj ha
    have e1 : Int.tmod (n : Int) 256 % 256 = ((n % 256 : Nat) : Int) := by rw [Int.tmod_eq_emod_of_nonneg (by omega)]; omega
    have e2 : Int.tdiv (n : Int) 256 = ((n / 256 : Nat) : Int) := by rw [Int.tdiv_eq_ediv_of_nonneg (by omega)]; omega
    have h1 := ih (n / 256) (acc ++ [n % 256]) (by omega) (by omega) (by simp only [List.length_append, List.length_cons, List.length_nil]; omega)
    rw [List.append_assoc] at h1
    refine Ev.step (f := fun k => kotatsuref02_Lay.l0 k ((n / 256 : Nat) : Int) (m : Int) (cst (acc ++ [n % 256])) ((m - j : Nat) : Int)) (fun k => ?_) h1
    simp only [kotatsuref02_Lay.l0]
    rw [if_pos (by omega), if_pos (by rw [cst_length]; omega), e1, e2, wu64 (by omega) (by omega), w64 (by omega) (by omega), cst_append]
    congr 1
    omega
theorem rlay_ev (n m : Nat) (hn : n < 18446744073709551616) (hm : m ≤ 8) : Ev (fun k => kotatsuref02_Lay.f k (n : Int) (m : Int)) (cst (layT m n)) := by
  have := rlay_l0 m hm m n [] hn (Nat.le_refl _) (by simpa using hm)
  rw [Nat.sub_self] at this
  exact this
theorem layT4 (n : Nat) : layT 4 n = lay4 n := by
  simp only [layT, lay4, Nat.div_div_eq_div_mul]

/-! ### kotatsuref02_Frame -/
theorem rframe_ev (ns : List Nat) (hn : small ns) (hl : ns.length ≤ 1000000) : Ev (fun k => kotatsuref02_Frame.f k (cst ns)) (cst (frameN ns)) := by
  have h4 := small_lay4 ns.length
  have hlt := longN_lt (lay4 ns.length ++ ns)
  have a1 := rlay_ev ns.length 4 (by omega) (by decide)
  have a2 := rlay_ev (longN (lay4 ns.length ++ ns)) 4 (by omega) (by decide)
  rw [layT4] at a1 a2
  have hL := rlong_ev (lay4 ns.length ++ ns) (small_append h4 hn) (by rw [List.length_append, lay4_length]; omega)
  have j1 := join_ev [cst (lay4 ns.length), cst ns] (by simp) (by simp only [List.flatten_cons, List.flatten_nil, List.append_nil, List.length_append, cst_length, lay4_length]; omega)
  have e1 : [cst (lay4 ns.length), cst ns].flatten = cst (lay4 ns.length ++ ns) := by simp [cst_append]
  have j2 := join_ev [cst (lay4 ns.length), cst (lay4 (longN (lay4 ns.length ++ ns))), cst ns] (by simp) (by simp only [List.flatten_cons, List.flatten_nil, List.append_nil, List.length_append, cst_length, lay4_length]; omega)
  have e2 : [cst (lay4 ns.length), cst (lay4 (longN (lay4 ns.length ++ ns))), cst ns].flatten = cst (frameN ns) := by simp [cst_append, frameN]
  rw [e1] at j1
  rw [e2] at j2
  unfold kotatsuref02_Frame.f
  rw [cst_length, wu64 (by omega) (by omega)]
  refine Ev.bind (f := fun k t => _) a1 ?_
  refine Ev.bind (f := fun k t => _) j1 ?_
  refine Ev.bind (f := fun k t => _) hL ?_
  rw [wu64 (by omega) (by omega)]
  refine Ev.bind (f := fun k t => _) a2 ?_
  exact Ev.bind (f := fun k t => some t) j2 (Ev.now _)

theorem SealFrames : kotatsulaw02_SealFrames.Pure := by
  intro l0 l1 _ hl0 hw0 _ hl1 hw1
  obtain ⟨ns, rfl, hs⟩ := cst_of l0 hw0
  obtain ⟨ms, rfl, hs1⟩ := cst_of l1 hw1
  rw [cst_length] at hl0 hl1
  have hc := cut_ev (cst ns) 100 (by decide) (by rw [cst_length]; omega)
  have hc1 := cut_ev (cst ms) 20 (by decide) (by rw [cst_length]; omega)
  rw [cst_take] at hc hc1
  have hs' := small_take hs 100
  have hs1' := small_take hs1 20
  have hlen : (ns.take 100).length ≤ 100 := List.length_take_le _ _
  have hlen1 : (ms.take 20).length ≤ 20 := List.length_take_le _ _
  generalize ns.take 100 = p at *
  generalize ms.take 20 = q at *
  have hfl := frameN_length p
  have hj := join_ev [cst (frameN p), cst q] (by simp) (by simp only [List.flatten_cons, List.flatten_nil, List.append_nil, List.length_append, cst_length]; omega)
  have ej : [cst (frameN p), cst q].flatten = cst (frameN p ++ q) := by simp [cst_append]
  rw [ej] at hj
  have hn := next_ev (frameN p ++ q) (small_append (small_frameN hs') hs1') (by rw [List.length_append]; omega)
  rw [next_frame p q (by omega)] at hn
  have s1 := same_ev (cst (frameN p)) (cst (frameN p)) (by rw [cst_length]; omega)
  have s2 := same_ev (cst p) (cst p) (by rw [cst_length]; omega)
  rw [decide_eq_true rfl] at s1 s2
  refine Ev.rounds (Ev.bind (f := fun k t => if t = true then _ else _) awake_ev ?_)
  simp only [if_true]
  refine Ev.bind (f := fun k t => _) hc ?_
  refine Ev.bind (f := fun k t => _) hc1 ?_
  refine Ev.bind (f := fun k t => _) (frame_ev p hs' (by omega)) ?_
  refine Ev.bind (f := fun k t => _) hj ?_
  refine Ev.bind (f := fun k t => _) hn ?_
  refine Ev.bind (f := fun k t => _) (rframe_ev p hs' (by omega)) ?_
  refine Ev.bind (f := fun k t => _) s1 ?_
  simp only [if_true, show (((0 : Nat) : Int) = 0) from rfl, cst_length, hfl]
  exact Ev.bind (f := fun k t => some t) s2 (Ev.now _)

end Go.Proofs.Ytinoijjbkbmmdaa.Pure
