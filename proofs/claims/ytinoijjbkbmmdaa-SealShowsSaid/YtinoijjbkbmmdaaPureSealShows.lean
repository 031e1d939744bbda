/- SealShows: bytes behind the sum of which some of 32 bits in a row are turned are told by it: for every input. No condition. -/
import Derived.Test.YtinoijjbkbmmdaaPSealShowsx3
import Derived.Test.YtinoijjbkbmmdaaU
namespace Go.Proofs.Ytinoijjbkbmmdaa.Pure
open Go.RowKit Go.Proofs.Ytinoijjbkbmmdaa.PSealShows Go.Proofs.Ytinoijjbkbmmdaa.U Go.Proofs.YtinoijjbkbmmdaaW.PrintWords Go.Proofs.YtinoijjbkbmmdaaW.PrintLast Go.Proofs.YtinoijjbkbmmdaaW.PrintMore
set_option linter.unusedVariables false
set_option linter.unusedSimpArgs false

/-! ### seal_Long -/
theorem long_step (s : Nat) (hs : s < 4294967296) : Go.bits .xor .u32 ((s : Int) / 2) ((3988292384 * (Go.bits .and .u32 (s : Int) 1)) % 4294967296) = ((Crc.F s : Nat) : Int) := by
  rw [and1_u32 s hs]
  have h2 : s % 2 = 0 ∨ s % 2 = 1 := by omega
  have e : (3988292384 * ((s % 2 : Nat) : Int)) % 4294967296 = ((3988292384 * (s % 2) : Nat) : Int) := by
    rcases h2 with h | h <;> rw [h] <;> decide
  rw [e, show ((s : Int) / 2) = ((s / 2 : Nat) : Int) by omega, xor_u32 _ _ (by omega) (by rcases h2 with h | h <;> rw [h] <;> decide)]
  rfl
theorem long_l1 (L : List Int) (n i : Int) (hi : 0 ≤ i) (hi2 : i < 9223372036854775807) (r : Int) (j : Nat) : ∀ s : Nat, s < 4294967296 → j ≤ 8 →
    Ev (fun k => seal_Long.l0 k ((Crc.Fn j s : Nat) : Int) L n (i + 1)) r → Ev (fun k => seal_Long.l1 k (s : Int) L n i ((8 - j : Nat) : Int)) r := by
  induction j with
  | zero =>
    intro s hs _ h
    refine Ev.step (f := fun k => seal_Long.l0 k (s : Int) L n (i + 1)) (fun k => ?_) h
    simp only [seal_Long.l1]
    rw [if_neg (by omega), w64 (by omega) (by omega)]
  | succ j ih =>
    intro s hs hj h
    refine Ev.step (f := fun k => seal_Long.l1 k ((Crc.F s : Nat) : Int) L n i ((8 - j : Nat) : Int)) (fun k => ?_) (ih _ (Crc.F_lt hs) (by omega) h)
    simp only [seal_Long.l1]
    rw [if_pos (by omega), long_step s hs, w64 (by omega) (by omega)]
    congr 1
    omega
theorem long_l0 (ns : List Nat) (hn : small ns) (hl : ns.length ≤ 140737488351232) (d : Nat) : ∀ i s : Nat, i + d = ns.length → s < 4294967296 →
    Ev (fun k => seal_Long.l0 k (s : Int) (cst ns) (ns.length : Int) (i : Int)) ((4294967295 - Crc.feed s (bitsL (ns.drop i)) : Nat) : Int) := by
  induction d with
  | zero =>
    intro i s hi hs
    refine Ev.step (f := fun _ => some ((4294967295 - s : Nat) : Int)) (fun k => ?_) ?_
    · simp only [seal_Long.l0]
      rw [if_neg (by omega)]
      have := xor_u32 4294967295 s (by omega) hs
      rw [not_u32 s hs] at this
      exact congrArg some this
    · rw [List.drop_eq_nil_of_le (by omega)]
      exact Ev.now _
  | succ d ih =>
    intro i s hi hs
    have hb := getD_small hn i
    have hx : s ^^^ ns.getD i 0 < 4294967296 := Nat.xor_lt_two_pow (n := 32) hs (by omega)
    have h1 := ih (i + 1) (Crc.Fn 8 (s ^^^ ns.getD i 0)) (by omega) (Crc.Fn_lt 8 _ hx)
    have h2 : Ev (fun k => seal_Long.l0 k ((Crc.Fn 8 (s ^^^ ns.getD i 0) : Nat) : Int) (cst ns) (ns.length : Int) ((i : Int) + 1)) ((4294967295 - Crc.feed (Crc.Fn 8 (s ^^^ ns.getD i 0)) (bitsL (ns.drop (i + 1))) : Nat) : Int) := h1
    have h3 := long_l1 (cst ns) (ns.length : Int) (i : Int) (by omega) (by omega) _ 8 _ hx (by omega) h2
    rw [drop_getD ns i (by omega), bitsL_cons, Crc.feed_append, ← feed_byte s _ hb]
    refine Ev.step (f := fun k => seal_Long.l1 k ((s ^^^ ns.getD i 0 : Nat) : Int) (cst ns) (ns.length : Int) (i : Int) ((8 - 8 : Nat) : Int)) (fun k => ?_) h3
    simp only [seal_Long.l0]
    rw [if_pos (by omega), if_pos (by omega), if_pos (by rw [cst_length]; omega), rd_cst, Int.emod_eq_of_lt (by omega) (by omega), xor_u32 s _ hs (by omega)]
    rfl
theorem long_ev (ns : List Nat) (hn : small ns) (hl : ns.length ≤ 140737488351232) : Ev (fun k => seal_Long.f k (cst ns)) ((longN ns : Nat) : Int) := by
  have := long_l0 ns hn hl ns.length 0 4294967295 (by omega) (by omega)
  rw [List.drop_zero] at this
  unfold seal_Long.f
  rw [cst_length]
  exact this

/-! ### kotatsulaw02_awake -/
theorem awake_ev : Ev (fun k => kotatsulaw02_awake.f k) true := by
  have h := long_ev [49, 50, 51, 52, 53, 54, 55, 56, 57] (by intro n hn; simp at hn; omega) (by decide)
  have e : longN [49, 50, 51, 52, 53, 54, 55, 56, 57] = 3421780262 := by decide +kernel
  rw [e] at h
  exact Ev.bind (f := fun _ t => some (t == 3421780262)) h (Ev.now _)

/-! ### kotatsuref01_Cut -/
theorem cut_l0 (l : List Int) (m : Nat) (hm : m < 100000) (hl : l.length ≤ 140737488351232) (d : Nat) : ∀ i : Nat, i + d = l.length → Ev (fun k => kotatsuref01_Cut.l0 k (m : Int) ((l.take i).take m) l (l.length : Int) (i : Int)) (l.take m) := by
  induction d with
  | zero =>
    intro i hi
    refine Ev.step (f := fun _ => some (l.take m)) (fun k => ?_) (Ev.now _)
    simp only [kotatsuref01_Cut.l0]
    rw [if_neg (by omega), List.take_of_length_le (show l.length ≤ i by omega)]
  | succ d ih =>
    intro i hi
    have hn := ih (i + 1) (by omega)
    have hlen : ((l.take i).take m).length ≤ i := by simp only [List.length_take]; omega
    have hget : l.take (i + 1) = l.take i ++ [rd l (i : Int)] := by
      unfold rd
      rw [List.take_succ_eq_append_getElem (by omega), List.getD_eq_getElem?_getD, Int.toNat_natCast, List.getElem?_eq_getElem (by omega)]; rfl
    by_cases c : i < m
    · refine Ev.step (f := fun k => kotatsuref01_Cut.l0 k (m : Int) ((l.take (i + 1)).take m) l (l.length : Int) ((i + 1 : Nat) : Int)) (fun k => ?_) hn
      simp only [kotatsuref01_Cut.l0]
      rw [if_pos (by omega), if_pos (by omega), if_pos (by omega), if_pos (by omega), if_pos (by omega), w64 (by omega) (by omega)]
      have e : (l.take (i + 1)).take m = (l.take i).take m ++ [rd l (i : Int)] := by
        rw [hget, List.take_append, List.take_of_length_le (l := [rd l (i : Int)]) (by simp only [List.length_take, List.length_cons, List.length_nil]; omega)]
      rw [e]; rfl
    · refine Ev.step (f := fun k => kotatsuref01_Cut.l0 k (m : Int) ((l.take (i + 1)).take m) l (l.length : Int) ((i + 1 : Nat) : Int)) (fun k => ?_) hn
      simp only [kotatsuref01_Cut.l0]
      rw [if_pos (by omega), if_pos (by omega), if_pos (by omega), if_neg (by omega), w64 (by omega) (by omega)]
      have e : (l.take (i + 1)).take m = (l.take i).take m := by
        rw [List.take_take, List.take_take]; congr 1; omega
      rw [e]; rfl
theorem cut_ev (l : List Int) (m : Nat) (hm : m < 100000) (hl : l.length ≤ 140737488351232) : Ev (fun k => kotatsuref01_Cut.f k l (m : Int)) (l.take m) := by
  have := cut_l0 l m hm hl l.length 0 (by omega)
  simpa [kotatsuref01_Cut.f] using this

/-! ### kotatsuref01_Join -/
theorem join_l0 (L : List (List Int)) (hl : L.length < 1000000000) (hsum : L.flatten.length < 140737488355328) (d : Nat) : ∀ i : Nat, i + d = L.length →
    Ev (fun k => kotatsuref01_Join.l0 k (L.take i).flatten L (L.length : Int) (i : Int)) L.flatten := by
  induction d with
  | zero =>
    intro i hi
    rw [List.take_of_length_le (by omega)]
    refine Ev.step (f := fun _ => some L.flatten) (fun k => ?_) (Ev.now _)
    simp only [kotatsuref01_Join.l0]
    rw [if_neg (by omega)]
  | succ d ih =>
    intro i hi
    have e : (L.take (i + 1)).flatten = (L.take i).flatten ++ rd_L2 L (i : Int) := by
      rw [List.take_succ_eq_append_getElem (by omega), List.flatten_append]
      unfold rd_L2
      rw [List.getD_eq_getElem?_getD, Int.toNat_natCast, List.getElem?_eq_getElem (by omega)]
      simp
    have hle : ((L.take (i + 1)).flatten).length ≤ L.flatten.length := by
      have : L.flatten = (L.take (i + 1)).flatten ++ (L.drop (i + 1)).flatten := by rw [← List.flatten_append, List.take_append_drop]
      rw [this, List.length_append]; omega
    rw [e, List.length_append] at hle
    have h1 := ih (i + 1) (by omega)
    rw [e] at h1
    refine Ev.step (f := fun k => kotatsuref01_Join.l0 k ((L.take i).flatten ++ rd_L2 L (i : Int)) L (L.length : Int) ((i + 1 : Nat) : Int)) (fun k => ?_) h1
    simp only [kotatsuref01_Join.l0]
    rw [if_pos (by omega), if_pos (by omega), if_pos (by omega), if_pos (by omega), w64 (by omega) (by omega)]
    rfl
theorem join_ev (L : List (List Int)) (hl : L.length < 1000000000) (hsum : L.flatten.length < 140737488355328) : Ev (fun k => kotatsuref01_Join.f k L) L.flatten := by
  have := join_l0 L hl hsum L.length 0 (by omega)
  simpa [kotatsuref01_Join.f] using this

/-! ### seal_lay -/
theorem lay_f (n : Nat) : seal_lay.f (n : Int) = some (cst (lay4 n)) := by
  unfold seal_lay.f
  rfl

/-! ### bytes_Clone -/
theorem clone_f (l : List Int) (h : l.length ≤ 140737488355328) : bytes_Clone.f l = some l := by
  unfold bytes_Clone.f
  rw [if_pos h]

/-! ### bytes_Join -/
theorem bjoin_f (L : List (List Nat)) (h2 : 2 ≤ L.length) (hb : L.length ≤ 1000000) (hs : ∀ l ∈ L, small l) (hsum : L.flatten.length ≤ 140737488355328) : bytes_Join.f (L.map cst) [] = some (cst L.flatten) := by
  unfold bytes_Join.f
  have e : (L.map cst).flatten = cst L.flatten := by
    clear h2 hb hs hsum
    induction L with
    | nil => rfl
    | cons x L ih => rw [List.map_cons, List.flatten_cons, ih, List.flatten_cons, cst_append]
  have e2 : ((L.map cst).map List.length).sum = L.flatten.length := by
    rw [List.length_flatten, List.map_map]
    congr 1
    apply List.map_congr_left
    intro x _
    exact cst_length x
  have hr : ∀ xs ∈ L.map cst, ∀ x ∈ xs, 0 ≤ x ∧ x < 256 := by
    intro xs hxs x hx
    obtain ⟨l, hl, rfl⟩ := List.mem_map.1 hxs
    obtain ⟨n, hn, rfl⟩ := List.mem_map.1 hx
    have := hs l hl n hn
    omega
  rw [if_pos ⟨by simpa using h2, by simpa using hb, rfl, hr, by rw [e2]; exact hsum⟩, e]

/-! ### seal_Frame -/
theorem frame_ev (ns : List Nat) (hn : small ns) (hl : ns.length ≤ 16777216) : Ev (fun k => seal_Frame.f k (cst ns)) (cst (frameN ns)) := by
  have h4 := small_lay4 ns.length
  have hL := long_ev (lay4 ns.length ++ ns) (small_append h4 hn) (by rw [List.length_append, lay4_length]; omega)
  have hj := bjoin_f [lay4 ns.length, lay4 (longN (lay4 ns.length ++ ns)), ns] (by simp) (by simp) (by
    intro l hl
    simp only [List.mem_cons, List.not_mem_nil, or_false] at hl
    rcases hl with rfl | rfl | rfl
    · exact h4
    · exact small_lay4 _
    · exact hn) (by simp only [List.flatten_cons, List.flatten_nil, List.length_append, lay4_length, List.length_nil]; omega)
  have ef : [lay4 ns.length, lay4 (longN (lay4 ns.length ++ ns)), ns].flatten = frameN ns := by simp [frameN]
  rw [ef] at hj
  unfold seal_Frame.f
  rw [cst_length, show ((ns.length : Int) % 4294967296) = (ns.length : Int) by omega]
  have hcl := clone_f (cst (lay4 ns.length)) (by rw [cst_length, lay4_length]; omega)
  simp only [lay_f, Option.bind_some, hcl, cst_length, lay4_length, ← cst_append, show 4 + ns.length < 140737488355328 by omega, if_true]
  refine Ev.bind (f := fun k t => (seal_lay.f t).bind fun t119 => (bytes_Join.f [cst (lay4 ns.length), t119, cst ns] []).bind fun t125 => some t125) hL ?_
  simp only [lay_f, Option.bind_some]
  refine Ev.congr (f := fun _ => some (cst (frameN ns))) (fun k => ?_) (Ev.now _)
  have hj' : bytes_Join.f [cst (lay4 ns.length), cst (lay4 (longN (lay4 ns.length ++ ns))), cst ns] [] = some (cst (frameN ns)) := hj
  rw [hj']
  rfl

/-! ### seal_take -/
theorem take_f (ns : List Nat) (h : 4 ≤ ns.length) (hs : small ns) : seal_take.f (cst ns) = some ((take4 ns : Nat) : Int) := by
  have b0 := getD_small hs 0
  have b1 := getD_small hs 1
  have b2 := getD_small hs 2
  have b3 := getD_small hs 3
  have r0 : rd (cst ns) 0 = ((ns.getD 0 0 : Nat) : Int) := rd_cst ns 0
  have r1 : rd (cst ns) 1 = ((ns.getD 1 0 : Nat) : Int) := rd_cst ns 1
  have r2 : rd (cst ns) 2 = ((ns.getD 2 0 : Nat) : Int) := rd_cst ns 2
  have r3 : rd (cst ns) 3 = ((ns.getD 3 0 : Nat) : Int) := rd_cst ns 3
  unfold seal_take.f
  rw [cst_length, if_pos (by omega), if_pos (by omega), if_pos (by omega), if_pos (by omega), r0, r1, r2, r3]
  unfold take4
  generalize ns.getD 0 0 = x0 at *
  generalize ns.getD 1 0 = x1 at *
  generalize ns.getD 2 0 = x2 at *
  generalize ns.getD 3 0 = x3 at *
  rw [show ((x0 : Int) % 4294967296) = x0 by omega, show (((x1 : Int) % 4294967296 * 256) % 4294967296) = ((x1 * 256 : Nat) : Int) by omega, show (((x2 : Int) % 4294967296 * 65536) % 4294967296) = ((x2 * 65536 : Nat) : Int) by omega, show (((x3 : Int) % 4294967296 * 16777216) % 4294967296) = ((x3 * 16777216 : Nat) : Int) by omega]
  rw [u32_or8 (x := ((x1 * 256 : Nat) : Int)) (y := (x0 : Int)) (by omega) (by omega) (by omega) (by omega) (by omega)]
  rw [u32_or16 (x := ((x2 * 65536 : Nat) : Int)) (y := (x0 : Int) + ((x1 * 256 : Nat) : Int)) (by omega) (by omega) (by omega) (by omega) (by omega)]
  rw [u32_or24 (x := ((x3 * 16777216 : Nat) : Int)) (y := (x0 : Int) + ((x1 * 256 : Nat) : Int) + ((x2 * 65536 : Nat) : Int)) (by omega) (by omega) (by omega) (by omega) (by omega)]
  congr 1
  omega

/-! ### seal_Next -/
theorem next_ev (ns : List Nat) (hs : small ns) (hl : ns.length ≤ 16777216) : Ev (fun k => seal_Next.f k (cst ns)) (cst (nextN ns).1, (((nextN ns).2.1 : Nat) : Int), (((nextN ns).2.2 : Nat) : Int)) := by
  unfold seal_Next.f nextN
  rw [cst_length]
  by_cases c0 : ns.length = 0
  · rw [if_pos c0]
    refine Ev.congr (fun k => ?_) (Ev.now _)
    rw [if_pos (by omega)]; rfl
  rw [if_neg c0]
  simp only [show ¬ ((ns.length : Int) = 0) by omega, if_false]
  by_cases c1 : ns.length < 8
  · rw [if_pos c1]
    refine Ev.congr (fun k => ?_) (Ev.now _)
    rw [if_pos (by omega)]; rfl
  rw [if_neg c1]
  have ht := take4_lt hs
  simp only [show ¬ ((ns.length : Int) < 8) by omega, if_false, take_f ns (by omega) hs, Option.bind_some]
  rw [w64 (n := ((take4 ns : Nat) : Int)) (by omega) (by omega), w64 (n := (ns.length : Int) - 8) (by omega) (by omega)]
  by_cases c2 : badSize ns
  · rw [if_pos c2]
    have hj : Ev (fun k => seal_Next.j0 k (cst ns) ((take4 ns : Nat) : Int) true) (([] : List Int), (0 : Int), (2 : Int)) := by
      refine Ev.step (f := fun _ => some (([] : List Int), (0 : Int), (2 : Int))) (fun k => ?_) (Ev.now _)
      simp only [seal_Next.j0, if_true]
    refine Ev.congr (fun k => ?_) hj
    unfold badSize at c2
    by_cases c3 : ((take4 ns : Nat) : Int) > 16777216
    · rw [if_pos c3]
    · rw [if_neg c3]
      congr 1
      exact decide_eq_true (by omega)
  rw [if_neg c2]
  have hb : ¬ badSize ns := c2
  unfold badSize at c2
  have hbody : small (bodyN ns) := small_drop (small_take hs _) _
  have hlen : (bodyN ns).length = take4 ns := by unfold bodyN; rw [List.length_drop, List.length_take]; omega
  have hL := long_ev (ns.take 4 ++ bodyN ns) (small_append (small_take hs 4) hbody) (by rw [List.length_append, List.length_take, hlen]; omega)
  have hj : Ev (fun k => seal_Next.j0 k (cst ns) ((take4 ns : Nat) : Int) false) (cst (if longN (ns.take 4 ++ bodyN ns) = take4 (ns.drop 4) then (bodyN ns, 8 + take4 ns, 0) else (([] : List Nat), 0, 3)).1, (((if longN (ns.take 4 ++ bodyN ns) = take4 (ns.drop 4) then (bodyN ns, 8 + take4 ns, 0) else (([] : List Nat), 0, 3)).2.1 : Nat) : Int), (((if longN (ns.take 4 ++ bodyN ns) = take4 (ns.drop 4) then (bodyN ns, 8 + take4 ns, 0) else (([] : List Nat), 0, 3)).2.2 : Nat) : Int)) := by
    refine Ev.step (f := fun k => (seal_Long.f k (cst (ns.take 4 ++ bodyN ns))).bind fun t => if t = ((take4 (ns.drop 4) : Nat) : Int) then some (cst (bodyN ns), ((8 + take4 ns : Nat) : Int), (0 : Int)) else some (([] : List Int), (0 : Int), (3 : Int))) (fun k => ?_) ?_
    · simp only [seal_Next.j0, Bool.false_eq_true, if_false]
      rw [cst_length, if_pos (by omega), clone_f _ (by rw [List.length_take, cst_length]; omega), Option.bind_some, w64 (n := ((take4 ns : Nat) : Int)) (by omega) (by omega), w64 (n := 8 + _) (by omega) (by omega), if_pos (by omega), if_pos (by omega)]
      have e1 : (((cst ns).take ((8 + ((take4 ns : Nat) : Int)) : Int).toNat).drop 8) = cst (bodyN ns) := by
        unfold bodyN
        rw [show ((8 + ((take4 ns : Nat) : Int)) : Int).toNat = 8 + take4 ns by omega, cst_take, cst_drop]
      rw [e1, cst_take, if_pos (by rw [cst_length, cst_length, List.length_take, hlen]; omega), ← cst_append, cst_drop, take_f (ns.drop 4) (by rw [List.length_drop]; omega) (small_drop hs 4), clone_f _ (by rw [cst_length, hlen]; omega)]
      rfl
    · refine Ev.bind (f := fun k t => if t = ((take4 (ns.drop 4) : Nat) : Int) then some (cst (bodyN ns), ((8 + take4 ns : Nat) : Int), (0 : Int)) else some (([] : List Int), (0 : Int), (3 : Int))) hL ?_
      by_cases c : longN (ns.take 4 ++ bodyN ns) = take4 (ns.drop 4)
      · simp only [c, if_true]; exact Ev.now _
      · simp only [c, if_false, show ¬ (((longN (ns.take 4 ++ bodyN ns) : Nat) : Int) = ((take4 (ns.drop 4) : Nat) : Int)) from fun h => c (by omega)]; exact Ev.now _
  refine Ev.congr (fun k => ?_) hj
  rw [if_neg (by omega)]
  congr 1
  exact decide_eq_false (by omega)

/-! ### kotatsuref01_Same -/
theorem same_l0 (a b : List Int) (hl : a.length = b.length) (hm : a.length ≤ 140737488355328) (d : Nat) : ∀ i : Nat, i + d = a.length →
    Ev (fun k => kotatsuref01_Same.l0 k a b (a.length : Int) (i : Int)) (decide (a.drop i = b.drop i)) := by
  induction d with
  | zero =>
    intro i hi
    rw [List.drop_eq_nil_of_le (by omega), List.drop_eq_nil_of_le (by omega)]
    refine Ev.step (f := fun _ => some true) (fun k => ?_) (Ev.now _)
    simp only [kotatsuref01_Same.l0]
    rw [if_neg (by omega)]
  | succ d ih =>
    intro i hi
    have ha : a.drop i = rd a (i : Int) :: a.drop (i + 1) := by
      unfold rd
      rw [List.drop_eq_getElem_cons (by omega), List.getD_eq_getElem?_getD, Int.toNat_natCast, List.getElem?_eq_getElem (by omega)]; rfl
    have hb : b.drop i = rd b (i : Int) :: b.drop (i + 1) := by
      unfold rd
      rw [List.drop_eq_getElem_cons (by omega), List.getD_eq_getElem?_getD, Int.toNat_natCast, List.getElem?_eq_getElem (by omega)]; rfl
    by_cases c : rd a (i : Int) = rd b (i : Int)
    · have h1 := ih (i + 1) (by omega)
      have e : decide (a.drop i = b.drop i) = decide (a.drop (i + 1) = b.drop (i + 1)) := by
        rw [ha, hb, c]; simp
      rw [e]
      refine Ev.step (f := fun k => kotatsuref01_Same.l0 k a b (a.length : Int) ((i + 1 : Nat) : Int)) (fun k => ?_) h1
      simp only [kotatsuref01_Same.l0]
      rw [if_pos (by omega), if_pos (by omega), if_pos (by omega), if_pos (by omega), if_pos c, w64 (by omega) (by omega)]
      rfl
    · have e : decide (a.drop i = b.drop i) = false := by
        rw [ha, hb]; simp [c]
      rw [e]
      refine Ev.step (f := fun _ => some false) (fun k => ?_) (Ev.now _)
      simp only [kotatsuref01_Same.l0]
      rw [if_pos (by omega), if_pos (by omega), if_pos (by omega), if_pos (by omega), if_neg c]
theorem same_ev (a b : List Int) (hm : a.length ≤ 140737488355328) : Ev (fun k => kotatsuref01_Same.f k a b) (decide (a = b)) := by
  unfold kotatsuref01_Same.f
  by_cases c : a.length = b.length
  · have := same_l0 a b c hm a.length 0 (by omega)
    refine Ev.congr (fun k => ?_) this
    rw [if_pos (by omega)]
    rfl
  · have e : decide (a = b) = false := decide_eq_false (fun h => c (by rw [h]))
    rw [e]
    refine Ev.congr (fun k => ?_) (Ev.now _)
    rw [if_neg (by omega)]

theorem val_bitsOf (k : Nat) : ∀ n, Crc.val (Crc.bitsOf k n) = n % 2 ^ k := by
  induction k with
  | zero => intro n; simp [Crc.bitsOf, Crc.val, Nat.mod_one]
  | succ k ih =>
    intro n
    simp only [Crc.bitsOf, Crc.val, ih]
    rw [Nat.pow_succ, Nat.mul_comm (2 ^ k) 2, Nat.mod_mul]
theorem bitsL_inj (a : List Nat) : ∀ b : List Nat, a.length = b.length → small a → small b → bitsL a = bitsL b → a = b := by
  induction a with
  | nil => intro b hl _ _ _; cases b with | nil => rfl | cons y b => simp at hl
  | cons x a ih =>
    intro b hl ha hb h
    cases b with
    | nil => simp at hl
    | cons y b =>
      rw [bitsL_cons, bitsL_cons] at h
      obtain ⟨h1, h2⟩ := List.append_inj h (by rw [bitsOf_length, bitsOf_length])
      have hv := congrArg Crc.val h1
      have hx := ha x List.mem_cons_self
      have hy := hb y List.mem_cons_self
      rw [val_bitsOf, val_bitsOf, Nat.mod_eq_of_lt (by simpa using hx), Nat.mod_eq_of_lt (by simpa using hy)] at hv
      rw [hv, ih b (by simpa using hl) (fun n hn => ha n (List.mem_cons_of_mem _ hn)) (fun n hn => hb n (List.mem_cons_of_mem _ hn)) h2]
theorem bitsOf_get (k : Nat) : ∀ n j : Nat, (Crc.bitsOf k n)[j]? = if j < k then some (n / 2 ^ j % 2) else none := by
  induction k with
  | zero => intro n j; simp [Crc.bitsOf]
  | succ k ih =>
    intro n j
    cases j with
    | zero => simp [Crc.bitsOf]
    | succ j =>
      simp only [Crc.bitsOf, List.getElem?_cons_succ, ih]
      rw [Nat.div_div_eq_div_mul, Nat.pow_succ, Nat.mul_comm (2 ^ j) 2]
      simp
theorem bitsL_get (ns : List Nat) : ∀ j : Nat, (bitsL ns)[j]? = if j < 8 * ns.length then some (ns.getD (j / 8) 0 / 2 ^ (j % 8) % 2) else none := by
  induction ns with
  | nil => intro j; simp [bitsL]
  | cons x ns ih =>
    intro j
    rw [bitsL_cons, List.getElem?_append, bitsOf_length]
    by_cases c : j < 8
    · rw [if_pos c, bitsOf_get, if_pos c, if_pos (by simp only [List.length_cons]; omega), show j / 8 = 0 by omega, show j % 8 = j by omega]
      rfl
    · rw [if_neg c, ih, show j / 8 = (j - 8) / 8 + 1 by omega, show j % 8 = (j - 8) % 8 by omega]
      simp only [List.length_cons, List.getD_cons_succ]
      by_cases c2 : j - 8 < 8 * ns.length
      · rw [if_pos c2, if_pos (by omega)]
      · rw [if_neg c2, if_neg (by omega)]
def flip (q : List Nat) (i : Nat) : List Nat := q.set (i / 8) (q.getD (i / 8) 0 ^^^ 2 ^ (i % 8))
theorem flip_length (q : List Nat) (i : Nat) : (flip q i).length = q.length := by simp [flip]
theorem pow8 (i : Nat) : 2 ^ (i % 8) < 256 := by
  have : i % 8 < 8 := Nat.mod_lt _ (by decide)
  exact Nat.pow_lt_pow_right (by decide) this
theorem small_flip {q : List Nat} (h : small q) (i : Nat) : small (flip q i) := by
  intro x hx
  rcases List.mem_or_eq_of_mem_set hx with hx | hx
  · exact h x hx
  · rw [hx]; exact Nat.xor_lt_two_pow (n := 8) (getD_small h _) (pow8 i)
theorem flip_far (q : List Nat) (i j : Nat) (hij : j ≠ i) : (bitsL (flip q i))[j]? = (bitsL q)[j]? := by
  rw [bitsL_get, bitsL_get, flip_length]
  by_cases c : j < 8 * q.length
  · rw [if_pos c, if_pos c]
    congr 1
    unfold flip
    by_cases c2 : i / 8 = j / 8
    · have c3 : j % 8 ≠ i % 8 := by omega
      rw [List.getD_eq_getElem?_getD, c2, List.getElem?_set_self (by omega)]
      simp only [Option.getD_some]
      have h1 := Nat.testBit_xor (q.getD (j / 8) 0) (2 ^ (i % 8)) (j % 8)
      rw [Nat.testBit_two_pow_of_ne (fun h => c3 h.symm), Bool.xor_false] at h1
      simp only [Nat.testBit_eq_decide_div_mod_eq] at h1
      have h2 := decide_eq_decide.1 h1
      have a1 : (q.getD (j / 8) 0 ^^^ 2 ^ (i % 8)) / 2 ^ (j % 8) % 2 < 2 := Nat.mod_lt _ (by decide)
      have a2 : q.getD (j / 8) 0 / 2 ^ (j % 8) % 2 < 2 := Nat.mod_lt _ (by decide)
      omega
    · rw [List.getD_eq_getElem?_getD, List.getElem?_set_ne c2, ← List.getD_eq_getElem?_getD]
  · rw [if_neg c, if_neg c]
/-- what the last words of the law come to -/
theorem shows_end (p q : List Nat) (hp : p.length ≤ 100) (hlen : q.length = p.length) (hsp : small p) (hsq : small q) (i0 : Nat)
    (hout : ∀ i, i < i0 ∨ i0 + 32 ≤ i → (bitsL q)[i]? = (bitsL p)[i]?) (x1 x2 x8 : Int) (x29 : Int) (hx : ¬ x29 < 32) :
    Ev (fun k => kotatsulaw02_SealShows.l0 k x1 x2 (cst (frameN p)) x8 (cst ((frameN p).take 8 ++ q)) x29) true := by
  have hfl := frameN_length p
  have hg8 : ((frameN p).take 8).length = 8 := by rw [List.length_take]; omega
  have hgl : ((frameN p).take 8 ++ q).length = 8 + p.length := by rw [List.length_append, hg8, hlen]
  have hgs : small ((frameN p).take 8 ++ q) := small_append (small_take (small_frameN hsp) 8) hsq
  have ht : take4 ((frameN p).take 8 ++ q) = p.length := by
    rw [← take4_take _ 4 (by omega), List.take_append_of_le_length (by omega), List.take_take, take4_take _ _ (by omega), frame_head p (by omega)]
  have hb : bodyN ((frameN p).take 8 ++ q) = q := by
    unfold bodyN
    rw [ht, List.take_of_length_le (by omega), List.drop_append_of_le_length (by omega), List.drop_of_length_le (by omega), List.nil_append]
  have hd : take4 (((frameN p).take 8 ++ q).drop 4) = longN (lay4 p.length ++ p) := by
    rw [← take4_take _ 4 (by omega), List.drop_append_of_le_length (by omega), List.take_append_of_le_length (by rw [List.length_drop]; omega), List.drop_take, List.take_take, take4_take _ _ (by omega), frame_sum]
  have h4 : ((frameN p).take 8 ++ q).take 4 = lay4 p.length := by
    rw [List.take_append_of_le_length (by omega), List.take_take, show min 4 8 = 4 from rfl, frame_take4]
  have hn := next_ev ((frameN p).take 8 ++ q) hgs (by omega)
  have hsame := same_ev (cst (frameN p)) (cst ((frameN p).take 8 ++ q)) (by rw [cst_length]; omega)
  have ep : (frameN p).take 8 ++ p = frameN p := by
    have := List.take_append_drop 8 (frameN p)
    rw [frame_drop8] at this
    exact this
  refine Ev.step (f := fun k => (seal_Next.f k (cst ((frameN p).take 8 ++ q))).bind fun bt => (kotatsuref01_Same.f k (cst (frameN p)) (cst ((frameN p).take 8 ++ q))).bind fun t => if ((bt.2.2 == 0) == t) = true then (if bt.2.2 = 0 then (some true) else (some (bt.2.2 == 3))) else (some false)) (fun k => ?_) ?_
  · simp only [kotatsulaw02_SealShows.l0]
    rw [if_neg hx]
  · refine Ev.bind (f := fun k bt => (kotatsuref01_Same.f k (cst (frameN p)) (cst ((frameN p).take 8 ++ q))).bind fun t => if ((bt.2.2 == 0) == t) = true then (if bt.2.2 = 0 then (some true) else (some (bt.2.2 == 3))) else (some false)) hn ?_
    refine Ev.bind (f := fun k t => _) hsame ?_
    have enext : nextN ((frameN p).take 8 ++ q) = if longN (lay4 p.length ++ q) = longN (lay4 p.length ++ p) then (q, 8 + p.length, 0) else ([], 0, 3) := by
      unfold nextN
      rw [if_neg (by omega), if_neg (by omega), if_neg (by unfold badSize; rw [ht]; omega), h4, hb, hd, ht]
    rw [enext]
    by_cases c : q = p
    · subst c
      rw [if_pos rfl, ep]
      simp only [decide_true]
      exact Ev.now _
    · have hne : ¬ (longN (lay4 p.length ++ q) = longN (lay4 p.length ++ p)) := by
        intro h
        have h1 := regL_lt (lay4 p.length ++ q)
        have h2 := regL_lt (lay4 p.length ++ p)
        unfold longN at h
        have := reg_burst (lay4 p.length) q p i0 hlen hout (by omega)
        exact c (bitsL_inj q p hlen hsq hsp this)
      have hs2 : decide (cst (frameN p) = cst ((frameN p).take 8 ++ q)) = false := by
        apply decide_eq_false
        intro h
        have h2 := cst_inj h
        rw [← ep, List.take_append_of_le_length (by omega), List.take_take] at h2
        have h3 := List.append_cancel_left h2
        exact c h3.symm
      rw [if_neg hne, hs2]
      exact Ev.now _
set_option maxHeartbeats 1000000 in
theorem shows_l0 (p : List Nat) (hp : p.length ≤ 100) (hp0 : 0 < p.length) (hsp : small p) (a t : Nat) (ht : t < 4294967296) (d : Nat) : ∀ (i : Nat) (q : List Nat), i + d = 32 → q.length = p.length → small q →
    (∀ j, j < a % (8 * p.length) ∨ a % (8 * p.length) + 32 ≤ j → (bitsL q)[j]? = (bitsL p)[j]?) → a < 65536 →
    Ev (fun k => kotatsulaw02_SealShows.l0 k (a : Int) (t : Int) (cst (frameN p)) ((8 * p.length : Nat) : Int) (cst ((frameN p).take 8 ++ q)) (i : Int)) true := by
  induction d with
  | zero =>
    intro i q hi hq hsq hout _
    exact shows_end p q hp hq hsp hsq _ hout _ _ _ _ (by omega)
  | succ d ih =>
    intro i q hi hq hsq hout ha
    have hfl := frameN_length p
    have hg8 : ((frameN p).take 8).length = 8 := by rw [List.length_take]; omega
    have hm : a % (8 * p.length) < 8 * p.length := Nat.mod_lt _ (by omega)
    have e1 : Int.tmod (wrap64 (a : Int)) ((8 * p.length : Nat) : Int) = ((a % (8 * p.length) : Nat) : Int) := by
      rw [w64 (by omega) (by omega), Int.tmod_eq_emod_of_nonneg (by omega)]
      exact (Int.natCast_emod _ _).symm
    generalize a % (8 * p.length) = m at *
    have E1 := Aside0.mk e1
    clear e1
    have e2 : wrap64 ((m : Int) + (i : Int)) = ((m + i : Nat) : Int) := by rw [w64 (by omega) (by omega)]; omega
    have ebit : Go.bits .and .u32 (shr .u32 (t : Int) (i : Int)) 1 = ((t / 2 ^ i % 2 : Nat) : Int) := by
      have e : shr .u32 (t : Int) (i : Int) = ((t / 2 ^ i : Nat) : Int) := by
        unfold shr
        rw [Int.toNat_natCast, show min i IntKind.u32.bits = i from by simp [IntKind.bits]; omega]
        exact_mod_cast rfl
      rw [e, and1_u32 _ (Nat.lt_of_le_of_lt (Nat.div_le_self _ _) ht)]
    have next := fun q' h1 h2 h3 => ih (i + 1) q' (by omega) h1 h2 h3 ha
    by_cases c1 : m + i < 8 * p.length
    · by_cases c2 : t / 2 ^ i % 2 = 1
      · have h3 := next (flip q (m + i)) (by rw [flip_length, hq]) (small_flip hsq _) (fun j hj => by
          rw [flip_far q (m + i) j (by omega)]; exact hout j hj)
        refine Ev.step (f := fun k => kotatsulaw02_SealShows.l0 k (a : Int) (t : Int) (cst (frameN p)) ((8 * p.length : Nat) : Int) (cst ((frameN p).take 8 ++ flip q (m + i))) ((i + 1 : Nat) : Int)) (fun k => ?_) h3
        simp only [kotatsulaw02_SealShows.l0, E1.out, e2, ebit]
        have e3 : wrap64 (8 + wrap64 (Int.tdiv ((m + i : Nat) : Int) 8)) = ((8 + (m + i) / 8 : Nat) : Int) := by
          rw [Int.tdiv_eq_ediv_of_nonneg (by omega), w64 (n := ((m + i : Nat) : Int) / 8) (by omega) (by omega), w64 (by omega) (by omega)]
          omega
        have e4 : Int.tmod ((m + i : Nat) : Int) 8 = (((m + i) % 8 : Nat) : Int) := by
          rw [Int.tmod_eq_emod_of_nonneg (by omega)]; omega
        have e5 : shl .u8 1 (((m + i) % 8 : Nat) : Int) = ((2 ^ ((m + i) % 8) : Nat) : Int) := by
          have hp8 := pow8 (m + i)
          have h8 : (m + i) % 8 < 8 := Nat.mod_lt _ (by decide)
          unfold shl
          rw [Int.toNat_natCast, show min ((m + i) % 8) IntKind.u8.bits = (m + i) % 8 from by simp [IntKind.bits]; omega, Int.one_mul, IntKind.wrap_u8]
          have e : ((2 : Int) ^ ((m + i) % 8)) = ((2 ^ ((m + i) % 8) : Nat) : Int) := by exact_mod_cast rfl
          rw [e]
          exact Int.emod_eq_of_lt (Int.natCast_nonneg _) (Int.ofNat_lt.2 hp8)
        rw [if_pos (by omega), if_neg (by omega), if_pos (by omega), if_pos (by omega), if_pos (by omega), e3, if_pos (by omega), if_pos (by rw [cst_length, List.length_append, hg8, hq]; omega), e4, if_pos (by omega), e5, rd_cst, w64 (by omega) (by omega)]
        have e6 : ((frameN p).take 8 ++ q).getD (8 + (m + i) / 8) 0 = q.getD ((m + i) / 8) 0 := by
          rw [List.getD_eq_getElem?_getD, List.getElem?_append_right (by omega), hg8, show 8 + (m + i) / 8 - 8 = (m + i) / 8 by omega, ← List.getD_eq_getElem?_getD]
        rw [e6, xor_u8 _ _ (getD_small hsq _) (pow8 _), Int.toNat_natCast]
        have e7 : (cst ((frameN p).take 8 ++ q)).set (8 + (m + i) / 8) (((q.getD ((m + i) / 8) 0 ^^^ 2 ^ ((m + i) % 8) : Nat)) : Int) = cst ((frameN p).take 8 ++ flip q (m + i)) := by
          unfold flip cst
          rw [← List.map_set, List.set_append_right _ _ (by omega), hg8, show 8 + (m + i) / 8 - 8 = (m + i) / 8 by omega]
        rw [e7]
        rfl
      · have h3 := next q hq hsq hout
        refine Ev.step (f := fun k => kotatsulaw02_SealShows.l0 k (a : Int) (t : Int) (cst (frameN p)) ((8 * p.length : Nat) : Int) (cst ((frameN p).take 8 ++ q)) ((i + 1 : Nat) : Int)) (fun k => ?_) h3
        simp only [kotatsulaw02_SealShows.l0, E1.out, e2, ebit]
        rw [if_pos (by omega), if_neg (by omega), if_pos (by omega), if_pos (by omega), if_neg (by omega), w64 (by omega) (by omega)]
        rfl
    · have h3 := next q hq hsq hout
      refine Ev.step (f := fun k => kotatsulaw02_SealShows.l0 k (a : Int) (t : Int) (cst (frameN p)) ((8 * p.length : Nat) : Int) (cst ((frameN p).take 8 ++ q)) ((i + 1 : Nat) : Int)) (fun k => ?_) h3
      simp only [kotatsulaw02_SealShows.l0, E1.out, e2]
      rw [if_pos (by omega), if_neg (by omega), if_neg (by omega), w64 (by omega) (by omega)]
      rfl
theorem SealShows : kotatsulaw02_SealShows.Pure := by
  intro l0 a1 a2 _ hl0 hw0 hw1 hw2
  obtain ⟨ns, rfl, hs⟩ := cst_of l0 hw0
  rw [cst_length] at hl0
  have h1 : 0 ≤ a1 ∧ a1 ≤ 65535 := by simpa [Lit.wf, IntKind.min, IntKind.max, IntKind.signed, IntKind.bits] using hw1
  have h2 : 0 ≤ a2 ∧ a2 ≤ 4294967295 := by simpa [Lit.wf, IntKind.min, IntKind.max, IntKind.signed, IntKind.bits] using hw2
  obtain ⟨a, rfl⟩ := Int.eq_ofNat_of_zero_le h1.1
  obtain ⟨t, rfl⟩ := Int.eq_ofNat_of_zero_le h2.1
  have hc := cut_ev (cst ns) 100 (by decide) (by rw [cst_length]; omega)
  rw [cst_take] at hc
  have hs' := small_take hs 100
  have hlen : (ns.take 100).length ≤ 100 := List.length_take_le _ _
  generalize ns.take 100 = p at *
  have hfl := frameN_length p
  refine Ev.rounds (Ev.bind (f := fun k t => if t = true then _ else _) awake_ev ?_)
  simp only [if_true]
  refine Ev.bind (f := fun k t => _) hc ?_
  refine Ev.bind (f := fun k t => _) (frame_ev p hs' (by omega)) ?_
  have e1 : wrap64 (8 * (wrap64 (((cst (frameN p)).length : Int) - 8))) = ((8 * p.length : Nat) : Int) := by
    rw [cst_length, w64 (n := ((frameN p).length : Int) - 8) (by omega) (by omega), w64 (by omega) (by omega)]
    omega
  rw [e1]
  by_cases c : p.length = 0
  · simp only [show ((8 * p.length : Nat) : Int) = 0 by omega, if_true]
    exact Ev.now _
  · simp only [show ¬ (((8 * p.length : Nat) : Int) = 0) by omega, if_false]
    have hj := join_ev [cst (frameN p)] (by simp) (by simp only [List.flatten_cons, List.flatten_nil, List.append_nil, cst_length]; omega)
    have ej : [cst (frameN p)].flatten = cst (frameN p) := by simp
    rw [ej] at hj
    have ep : (frameN p).take 8 ++ p = frameN p := by
      have := List.take_append_drop 8 (frameN p)
      rw [frame_drop8] at this
      exact this
    have h := shows_l0 p hlen (by omega) hs' a t (by omega) 32 0 p rfl rfl hs' (fun _ _ => rfl) (by omega)
    rw [ep] at h
    refine Ev.bind (f := fun k t => _) hj ?_
    exact h

end Go.Proofs.Ytinoijjbkbmmdaa.Pure
