/- SealSums: any bytes have the document's sums: the program's Long, Short and Step answer as the reference's, for every input. No condition. -/
import Derived.Test.YtinoijjbkbmmdaaPSealSumsx2
import Derived.Test.YtinoijjbkbmmdaaU
namespace Go.Proofs.Ytinoijjbkbmmdaa.Pure
open Go.RowKit Go.Proofs.Ytinoijjbkbmmdaa.PSealSums Go.Proofs.Ytinoijjbkbmmdaa.U Go.Proofs.YtinoijjbkbmmdaaW.PrintWords Go.Proofs.YtinoijjbkbmmdaaW.PrintLast Go.Proofs.YtinoijjbkbmmdaaW.PrintMore
set_option linter.unusedVariables false
set_option linter.unusedSimpArgs false

/-! ### seal_Long -/
theorem long_step (s : Nat) (hs : s < 4294967296) : Go.bits .xor .u32 ((s : Int) / 2) ((3988292384 * (Go.bits .and .u32 (s : Int) 1)) % 4294967296) = ((Crc.F s : Nat) : Int) := by
  rw [and1_u32 s hs]
  have h2 : s % 2 = 0 ∨ s % 2 = 1 := by omega
  have e : (3988292384 * ((s % 2 : Nat) : Int)) % 4294967296 = ((3988292384 * (s % 2) : Nat) : Int) := by
    rcases h2 with h | h <;> rw [h] <;> decide
  rw [e, show ((s : Int) / 2) = ((s / 2 : Nat) : Int) by omega, xor_u32 _ _ (by omega) (by rcases h2 with h | h <;> rw [h] <;> decide)]
  rfl
theorem long_l1 (L : List Int) (n i : Int) (hi : 0 ≤ i) (hi2 : i < 9223372036854775807) (r : Int) (j : Nat) : ∀ s : Nat, s < 4294967296 → j ≤ 8 →
    Ev (fun k => seal_Long.l0 k ((Crc.Fn j s : Nat) : Int) L n (i + 1)) r → Ev (fun k => seal_Long.l1 k (s : Int) L n i ((8 - j : Nat) : Int)) r := by
  induction j with
  | zero =>
    intro s hs _ h
    refine Ev.step (f := fun k => seal_Long.l0 k (s : Int) L n (i + 1)) (fun k => ?_) h
    simp only [seal_Long.l1]
    rw [if_neg (by omega), w64 (by omega) (by omega)]
  | succ j ih =>
    intro s hs hj h
    refine Ev.step (f := fun k => seal_Long.l1 k ((Crc.F s : Nat) : Int) L n i ((8 - j : Nat) : Int)) (fun k => ?_) (ih _ (Crc.F_lt hs) (by omega) h)
    simp only [seal_Long.l1]
    rw [if_pos (by omega), long_step s hs, w64 (by omega) (by omega)]
    congr 1
    omega
theorem long_l0 (ns : List Nat) (hn : small ns) (hl : ns.length ≤ 140737488351232) (d : Nat) : ∀ i s : Nat, i + d = ns.length → s < 4294967296 →
    Ev (fun k => seal_Long.l0 k (s : Int) (cst ns) (ns.length : Int) (i : Int)) ((4294967295 - Crc.feed s (bitsL (ns.drop i)) : Nat) : Int) := by
  induction d with
  | zero =>
    intro i s hi hs
    refine Ev.step (f := fun _ => some ((4294967295 - s : Nat) : Int)) (fun k => ?_) ?_
    · simp only [seal_Long.l0]
      rw [if_neg (by omega)]
      have := xor_u32 4294967295 s (by omega) hs
      rw [not_u32 s hs] at this
      exact congrArg some this
    · rw [List.drop_eq_nil_of_le (by omega)]
      exact Ev.now _
  | succ d ih =>
    intro i s hi hs
    have hb := getD_small hn i
    have hx : s ^^^ ns.getD i 0 < 4294967296 := Nat.xor_lt_two_pow (n := 32) hs (by omega)
    have h1 := ih (i + 1) (Crc.Fn 8 (s ^^^ ns.getD i 0)) (by omega) (Crc.Fn_lt 8 _ hx)
    have h2 : Ev (fun k => seal_Long.l0 k ((Crc.Fn 8 (s ^^^ ns.getD i 0) : Nat) : Int) (cst ns) (ns.length : Int) ((i : Int) + 1)) ((4294967295 - Crc.feed (Crc.Fn 8 (s ^^^ ns.getD i 0)) (bitsL (ns.drop (i + 1))) : Nat) : Int) := h1
    have h3 := long_l1 (cst ns) (ns.length : Int) (i : Int) (by omega) (by omega) _ 8 _ hx (by omega) h2
    rw [drop_getD ns i (by omega), bitsL_cons, Crc.feed_append, ← feed_byte s _ hb]
    refine Ev.step (f := fun k => seal_Long.l1 k ((s ^^^ ns.getD i 0 : Nat) : Int) (cst ns) (ns.length : Int) (i : Int) ((8 - 8 : Nat) : Int)) (fun k => ?_) h3
    simp only [seal_Long.l0]
    rw [if_pos (by omega), if_pos (by omega), if_pos (by rw [cst_length]; omega), rd_cst, Int.emod_eq_of_lt (by omega) (by omega), xor_u32 s _ hs (by omega)]
    rfl
theorem long_ev (ns : List Nat) (hn : small ns) (hl : ns.length ≤ 140737488351232) : Ev (fun k => seal_Long.f k (cst ns)) ((longN ns : Nat) : Int) := by
  have := long_l0 ns hn hl ns.length 0 4294967295 (by omega) (by omega)
  rw [List.drop_zero] at this
  unfold seal_Long.f
  rw [cst_length]
  exact this

/-! ### kotatsulaw02_awake -/
theorem awake_ev : Ev (fun k => kotatsulaw02_awake.f k) true := by
  have h := long_ev [49, 50, 51, 52, 53, 54, 55, 56, 57] (by intro n hn; simp at hn; omega) (by decide)
  have e : longN [49, 50, 51, 52, 53, 54, 55, 56, 57] = 3421780262 := by decide +kernel
  rw [e] at h
  exact Ev.bind (f := fun _ t => some (t == 3421780262)) h (Ev.now _)

/-! ### kotatsuref01_Cut -/
theorem cut_l0 (l : List Int) (m : Nat) (hm : m < 100000) (hl : l.length ≤ 140737488351232) (d : Nat) : ∀ i : Nat, i + d = l.length → Ev (fun k => kotatsuref01_Cut.l0 k (m : Int) ((l.take i).take m) l (l.length : Int) (i : Int)) (l.take m) := by
  induction d with
  | zero =>
    intro i hi
    refine Ev.step (f := fun _ => some (l.take m)) (fun k => ?_) (Ev.now _)
    simp only [kotatsuref01_Cut.l0]
    rw [if_neg (by omega), List.take_of_length_le (show l.length ≤ i by omega)]
  | succ d ih =>
    intro i hi
    have hn := ih (i + 1) (by omega)
    have hlen : ((l.take i).take m).length ≤ i := by simp only [List.length_take]; omega
    have hget : l.take (i + 1) = l.take i ++ [rd l (i : Int)] := by
      unfold rd
      rw [List.take_succ_eq_append_getElem (by omega), List.getD_eq_getElem?_getD, Int.toNat_natCast, List.getElem?_eq_getElem (by omega)]; rfl
    by_cases c : i < m
    · refine Ev.step (f := fun k => kotatsuref01_Cut.l0 k (m : Int) ((l.take (i + 1)).take m) l (l.length : Int) ((i + 1 : Nat) : Int)) (fun k => ?_) hn
      simp only [kotatsuref01_Cut.l0]
      rw [if_pos (by omega), if_pos (by omega), if_pos (by omega), if_pos (by omega), if_pos (by omega), w64 (by omega) (by omega)]
      have e : (l.take (i + 1)).take m = (l.take i).take m ++ [rd l (i : Int)] := by
        rw [hget, List.take_append, List.take_of_length_le (l := [rd l (i : Int)]) (by simp only [List.length_take, List.length_cons, List.length_nil]; omega)]
      rw [e]; rfl
    · refine Ev.step (f := fun k => kotatsuref01_Cut.l0 k (m : Int) ((l.take (i + 1)).take m) l (l.length : Int) ((i + 1 : Nat) : Int)) (fun k => ?_) hn
      simp only [kotatsuref01_Cut.l0]
      rw [if_pos (by omega), if_pos (by omega), if_pos (by omega), if_neg (by omega), w64 (by omega) (by omega)]
      have e : (l.take (i + 1)).take m = (l.take i).take m := by
        rw [List.take_take, List.take_take]; congr 1; omega
      rw [e]; rfl
theorem cut_ev (l : List Int) (m : Nat) (hm : m < 100000) (hl : l.length ≤ 140737488351232) : Ev (fun k => kotatsuref01_Cut.f k l (m : Int)) (l.take m) := by
  have := cut_l0 l m hm hl l.length 0 (by omega)
  simpa [kotatsuref01_Cut.f] using this

/-! ### kotatsuref02_bits -/
theorem bits_l1 (x3 L : List Int) (n i : Int) (hi : 0 ≤ i) (hi2 : i < 9223372036854775807) (r : List Int) (j : Nat) : ∀ (xs : List Nat) (b : Nat), b < 256 → j ≤ 8 → xs.length + j < 17592186044416 →
    Ev (fun k => kotatsuref02_bits.l0 k (cst (xs ++ Crc.bitsOf j b)) L n (i + 1)) r → Ev (fun k => kotatsuref02_bits.l1 k (cst xs) (b : Int) ((8 - j : Nat) : Int) L n i) r := by
  induction j with
  | zero =>
    intro xs b hb _ hx h
    rw [Crc.bitsOf, List.append_nil] at h
    refine Ev.step (f := fun k => kotatsuref02_bits.l0 k (cst xs) L n (i + 1)) (fun k => ?_) h
    simp only [kotatsuref02_bits.l1]
    rw [if_neg (by omega), w64 (by omega) (by omega)]
  | succ j ih =>
    intro xs b hb hj hx h
    have e1 : Int.tmod (b : Int) 2 = ((b % 2 : Nat) : Int) := by rw [Int.tmod_eq_emod_of_nonneg (by omega)]; omega
    have e2 : Int.tdiv (b : Int) 2 = ((b / 2 : Nat) : Int) := by rw [Int.tdiv_eq_ediv_of_nonneg (by omega)]; omega
    have h' : Ev (fun k => kotatsuref02_bits.l0 k (cst ((xs ++ [b % 2]) ++ Crc.bitsOf j (b / 2))) L n (i + 1)) r := by
      rw [List.append_assoc]; exact h
    refine Ev.step (f := fun k => kotatsuref02_bits.l1 k (cst (xs ++ [b % 2])) ((b / 2 : Nat) : Int) ((8 - j : Nat) : Int) L n i) (fun k => ?_) (ih (xs ++ [b % 2]) (b / 2) (by omega) (by omega) (by simp; omega) h')
    simp only [kotatsuref02_bits.l1]
    rw [if_pos (by omega), if_pos (by rw [cst_length]; omega), e1, e2, w64 (n := ((b / 2 : Nat) : Int)) (by omega) (by omega), w64 (by omega) (by omega), cst_append]
    congr 1
    omega
theorem bits_l0 (ns : List Nat) (hn : small ns) (hl : ns.length < 1000000000) (d : Nat) : ∀ i : Nat, i + d = ns.length →
    Ev (fun k => kotatsuref02_bits.l0 k (cst (bitsL (ns.take i))) (cst ns) (ns.length : Int) (i : Int)) (cst (bitsL ns)) := by
  induction d with
  | zero =>
    intro i hi
    rw [List.take_of_length_le (by omega)]
    refine Ev.step (f := fun _ => some (cst (bitsL ns))) (fun k => ?_) (Ev.now _)
    simp only [kotatsuref02_bits.l0]
    rw [if_neg (by omega)]
  | succ d ih =>
    intro i hi
    have hb := getD_small hn i
    have h1 := ih (i + 1) (by omega)
    rw [take_getD ns i (by omega), bitsL_append] at h1
    have h2 : Ev (fun k => kotatsuref02_bits.l0 k (cst (bitsL (ns.take i) ++ Crc.bitsOf 8 (ns.getD i 0))) (cst ns) (ns.length : Int) ((i : Int) + 1)) (cst (bitsL ns)) := by
      have e : bitsL [ns.getD i 0] = Crc.bitsOf 8 (ns.getD i 0) := by simp [bitsL]
      rw [e] at h1
      exact h1
    have h3 := bits_l1 [] (cst ns) (ns.length : Int) (i : Int) (by omega) (by omega) _ 8 (bitsL (ns.take i)) (ns.getD i 0) hb (by omega) (by rw [bitsL_length, List.length_take]; omega) h2
    refine Ev.step (f := fun k => kotatsuref02_bits.l1 k (cst (bitsL (ns.take i))) ((ns.getD i 0 : Nat) : Int) ((8 - 8 : Nat) : Int) (cst ns) (ns.length : Int) (i : Int)) (fun k => ?_) h3
    simp only [kotatsuref02_bits.l0]
    rw [if_pos (by omega), if_pos (by omega), if_pos (by rw [cst_length]; omega), rd_cst, w64 (by omega) (by omega)]
    rfl
theorem bits_ev (ns : List Nat) (hn : small ns) (hl : ns.length < 1000000000) : Ev (fun k => kotatsuref02_bits.f k (cst ns)) (cst (bitsL ns)) := by
  have := bits_l0 ns hn hl ns.length 0 (by omega)
  unfold kotatsuref02_bits.f
  rw [cst_length]
  exact this

/-! ### kotatsuref02_Long -/
theorem rlong_l0 (bs : List Nat) (hb : ∀ x ∈ bs, x < 2) (hl : bs.length < 10000000000) (d : Nat) : ∀ i s : Nat, i + d = bs.length → s < 4294967296 →
    Ev (fun k => kotatsuref02_Long.l0 k (s : Int) (cst bs) (bs.length : Int) (i : Int)) ((4294967295 - Crc.feed s (bs.drop i) : Nat) : Int) := by
  induction d with
  | zero =>
    intro i s hi hs
    refine Ev.step (f := fun _ => some ((4294967295 - s : Nat) : Int)) (fun k => ?_) ?_
    · simp only [kotatsuref02_Long.l0]
      rw [if_neg (by omega), wu64 (by omega) (by omega)]
      congr 1
      omega
    · rw [List.drop_eq_nil_of_le (by omega)]
      exact Ev.now _
  | succ d ih =>
    intro i s hi hs
    have hb2 : bs.getD i 0 < 2 := by
      rw [List.getD_eq_getElem?_getD, List.getElem?_eq_getElem (by omega)]
      exact hb _ (List.getElem_mem _)
    have hx : s ^^^ bs.getD i 0 < 4294967296 := Nat.xor_lt_two_pow (n := 32) hs (by omega)
    have hF := Crc.F_lt (s := s ^^^ bs.getD i 0) hx
    have h1 := ih (i + 1) (Crc.F (s ^^^ bs.getD i 0)) (by omega) hF
    rw [drop_getD bs i (by omega)]
    refine Ev.step (f := fun k => kotatsuref02_Long.l0 k ((Crc.F (s ^^^ bs.getD i 0) : Nat) : Int) (cst bs) (bs.length : Int) ((i + 1 : Nat) : Int)) (fun k => ?_) h1
    simp only [kotatsuref02_Long.l0]
    rw [if_pos (by omega), if_pos (by omega), if_pos (by rw [cst_length]; omega), rd_cst, wu64 (n := ((bs.getD i 0 : Nat) : Int)) (by omega) (by omega), wu64 (n := (s : Int) + _) (by omega) (by omega)]
    have e1 : Int.tmod ((s : Int) + ((bs.getD i 0 : Nat) : Int)) 2 = (((s + bs.getD i 0) % 2 : Nat) : Int) := by rw [Int.tmod_eq_emod_of_nonneg (by omega)]; omega
    have e2 : Int.tdiv (s : Int) 2 = ((s / 2 : Nat) : Int) := by rw [Int.tdiv_eq_ediv_of_nonneg (by omega)]; omega
    rw [e1, e2, ref_bit s _ hb2, wu64 (n := ((s / 2 : Nat) : Int)) (by omega) (by omega), w64 (by omega) (by omega)]
    by_cases c : (s + bs.getD i 0) % 2 = 1
    · rw [if_pos (by omega), if_pos c]
      have := xor_u64 (s / 2) 3988292384 (by omega) (by decide)
      rw [show (3988292384 : Int) = ((3988292384 : Nat) : Int) from rfl, this]
      rfl
    · rw [if_neg (by omega), if_neg c]
      rfl
theorem rlong_ev (ns : List Nat) (hn : small ns) (hl : ns.length < 1000000000) : Ev (fun k => kotatsuref02_Long.f k (cst ns)) ((longN ns : Nat) : Int) := by
  have h := rlong_l0 (bitsL ns) (bitsL_lt ns) (by rw [bitsL_length]; omega) (bitsL ns).length 0 4294967295 (by omega) (by omega)
  unfold kotatsuref02_Long.f
  refine Ev.bind (f := fun k (t : List Int) => kotatsuref02_Long.l0 k 4294967295 t (t.length : Int) 0) (bits_ev ns hn hl) ?_
  rw [cst_length]
  exact h

/-! ### seal_Step -/
theorem shr_bit (b i : Nat) (hb : b < 256) (hi : i < 8) : Go.bits .and .u8 (shr .u8 (b : Int) (i : Int)) 1 = ((b / 2 ^ i % 2 : Nat) : Int) := by
  have e : shr .u8 (b : Int) (i : Int) = ((b / 2 ^ i : Nat) : Int) := by
    unfold shr
    rw [Int.toNat_natCast, show min i IntKind.u8.bits = i from by simp [IntKind.bits]; omega]
    exact_mod_cast rfl
  have hlt : b / 2 ^ i < 256 := Nat.lt_of_le_of_lt (Nat.div_le_self _ _) hb
  rw [e, and1_u8 _ hlt]
theorem step_one (s x : Nat) (hs : s < 65536) (hx : x < 2) : Go.bits .xor .u16 (Go.bits .or .u16 ((s : Int) / 2) (IntKind.u16.wrap ((IntKind.u16.wrap (x : Int)) * 32768))) (IntKind.u16.wrap (33800 * (Go.bits .and .u16 (s : Int) 1))) = ((Crc.G s x : Nat) : Int) := by
  rw [and1_u16 s hs, wu16 (n := (x : Int)) (by omega) (by omega), wu16 (n := (x : Int) * 32768) (by omega) (by omega)]
  have h2 : s % 2 = 0 ∨ s % 2 = 1 := by omega
  rw [wu16 (n := 33800 * _) (by omega) (by omega)]
  have eo : Go.bits .or .u16 ((s : Int) / 2) ((x : Int) * 32768) = ((s / 2 + 32768 * x : Nat) : Int) := by
    have := bits_join_low .u16 16 (by decide) wraps_u16 15 ((s : Int) / 2) ((x : Int) * 32768) (by omega) (by omega) (by omega) (by omega) (by omega) (by omega)
    rw [this]; omega
  rw [eo, show (33800 * ((s % 2 : Nat) : Int)) = ((33800 * (s % 2) : Nat) : Int) by omega, xor_u16 _ _ (by omega) (by omega)]
  rfl
theorem step_l0 (b : Nat) (hb : b < 256) (j : Nat) : ∀ s : Nat, s < 65536 → j ≤ 8 → Ev (fun k => seal_Step.l0 k (s : Int) (b : Int) ((8 - j : Nat) : Int)) ((Crc.gfeed s (Crc.bitsOf j (b / 2 ^ (8 - j))) : Nat) : Int) := by
  induction j with
  | zero =>
    intro s hs _
    refine Ev.step (f := fun _ => some (s : Int)) (fun k => ?_) (Ev.now _)
    simp only [seal_Step.l0]
    rw [if_neg (by omega)]
  | succ j ih =>
    intro s hs hj
    have hx : b / 2 ^ (8 - (j + 1)) % 2 < 2 := Nat.mod_lt _ (by decide)
    have h1 := ih (Crc.G s (b / 2 ^ (8 - (j + 1)) % 2)) (Crc.G_lt hs hx) (by omega)
    have e : b / 2 ^ (8 - (j + 1)) / 2 = b / 2 ^ (8 - j) := by
      rw [Nat.div_div_eq_div_mul, ← Nat.pow_succ, show (8 - (j + 1)).succ = 8 - j by omega]
    rw [Crc.bitsOf, e]
    refine Ev.step (f := fun k => seal_Step.l0 k ((Crc.G s (b / 2 ^ (8 - (j + 1)) % 2) : Nat) : Int) (b : Int) ((8 - j : Nat) : Int)) (fun k => ?_) h1
    simp only [seal_Step.l0]
    rw [if_pos (by omega), if_pos (by omega), shr_bit b _ hb (by omega), step_one s _ hs hx, w64 (by omega) (by omega)]
    congr 1
    omega
theorem step_ev (s b : Nat) (hs : s < 65536) (hb : b < 256) : Ev (fun k => seal_Step.f k (s : Int) (b : Int)) ((Crc.gfeed s (Crc.bitsOf 8 b) : Nat) : Int) := by
  have := step_l0 b hb 8 s hs (by omega)
  simpa [seal_Step.f] using this

/-! ### seal_Short -/
theorem short_l0 (ns : List Nat) (hn : small ns) (hl : ns.length ≤ 140737488351232) (d : Nat) : ∀ i s : Nat, i + d = ns.length → s < 65536 →
    Ev (fun k => seal_Short.l0 k (s : Int) (cst ns) (ns.length : Int) (i : Int)) ((Crc.gfeed s (bitsL (ns.drop i ++ [0, 0])) : Nat) : Int) := by
  induction d with
  | zero =>
    intro i s hi hs
    rw [List.drop_eq_nil_of_le (by omega), List.nil_append, bitsL_cons, bitsL_cons, Crc.gfeed_append, Crc.gfeed_append]
    have h1 := step_ev s 0 hs (by decide)
    have hs1 := Crc.gfeed_lt (Crc.bitsOf 8 0) s hs (Crc.bitsOf_lt 8 0)
    have h2 := step_ev _ 0 hs1 (by decide)
    refine Ev.step (f := fun k => (seal_Step.f k (s : Int) 0).bind fun t => (seal_Step.f k t 0).bind fun u => some u) (fun k => ?_) ?_
    · simp only [seal_Short.l0]
      rw [if_neg (by omega)]
    · refine Ev.bind (f := fun k t => (seal_Step.f k t 0).bind fun u => some u) h1 ?_
      exact Ev.bind (f := fun _ u => some u) h2 (Ev.now _)
  | succ d ih =>
    intro i s hi hs
    have hb := getD_small hn i
    rw [drop_getD ns i (by omega), List.cons_append, bitsL_cons, Crc.gfeed_append]
    have hs1 := Crc.gfeed_lt (Crc.bitsOf 8 (ns.getD i 0)) s hs (Crc.bitsOf_lt 8 _)
    have h1 := ih (i + 1) _ (by omega) hs1
    refine Ev.step (f := fun k => (seal_Step.f k (s : Int) ((ns.getD i 0 : Nat) : Int)).bind fun t => seal_Short.l0 k t (cst ns) (ns.length : Int) ((i + 1 : Nat) : Int)) (fun k => ?_) ?_
    · simp only [seal_Short.l0]
      rw [if_pos (by omega), if_pos (by omega), if_pos (by rw [cst_length]; omega), rd_cst, w64 (by omega) (by omega)]
      rfl
    · exact Ev.bind (f := fun k t => seal_Short.l0 k t (cst ns) (ns.length : Int) ((i + 1 : Nat) : Int)) (step_ev s _ hs hb) h1
theorem short_ev (ns : List Nat) (hn : small ns) (hl : ns.length ≤ 140737488351232) : Ev (fun k => seal_Short.f k (cst ns)) ((shortN ns : Nat) : Int) := by
  have := short_l0 ns hn hl ns.length 0 32768 (by omega) (by omega)
  unfold seal_Short.f
  rw [cst_length]
  exact this

/-! ### kotatsuref02_Step -/
theorem rstep_l0 (bs : List Nat) (hb : ∀ x ∈ bs, x < 2) (hl : bs.length < 10000000000) (d : Nat) : ∀ i s : Nat, i + d = bs.length → s < 65536 →
    Ev (fun k => kotatsuref02_Step.l0 k (s : Int) (cst bs) (bs.length : Int) (i : Int)) ((Crc.gfeed s (bs.drop i) : Nat) : Int) := by
  induction d with
  | zero =>
    intro i s hi hs
    refine Ev.step (f := fun _ => some (s : Int)) (fun k => ?_) ?_
    · simp only [kotatsuref02_Step.l0]
      rw [if_neg (by omega), wu16 (by omega) (by omega)]
    · rw [List.drop_eq_nil_of_le (by omega)]
      exact Ev.now _
  | succ d ih =>
    intro i s hi hs
    have hb2 : bs.getD i 0 < 2 := by
      rw [List.getD_eq_getElem?_getD, List.getElem?_eq_getElem (by omega)]
      exact hb _ (List.getElem_mem _)
    have h1 := ih (i + 1) (Crc.G s (bs.getD i 0)) (by omega) (Crc.G_lt hs hb2)
    rw [drop_getD bs i (by omega)]
    refine Ev.step (f := fun k => kotatsuref02_Step.l0 k ((Crc.G s (bs.getD i 0) : Nat) : Int) (cst bs) (bs.length : Int) ((i + 1 : Nat) : Int)) (fun k => ?_) h1
    simp only [kotatsuref02_Step.l0]
    rw [if_pos (by omega), if_pos (by omega), if_pos (by rw [cst_length]; omega), rd_cst]
    have e1 : Int.tmod (s : Int) 2 = ((s % 2 : Nat) : Int) := by rw [Int.tmod_eq_emod_of_nonneg (by omega)]; omega
    have e2 : Int.tdiv (s : Int) 2 = ((s / 2 : Nat) : Int) := by rw [Int.tdiv_eq_ediv_of_nonneg (by omega)]; omega
    rw [e1, e2, w64 (n := ((s / 2 : Nat) : Int)) (by omega) (by omega), w64 (n := 32768 * _) (by omega) (by omega), w64 (n := ((s / 2 : Nat) : Int) + _) (by omega) (by omega), step16, w64 (by omega) (by omega)]
    by_cases c : s % 2 = 1
    · rw [if_pos (by omega), if_pos c]
      have := xor_i64 (s / 2 + 32768 * bs.getD i 0) 33800 (by omega) (by decide)
      rw [show (33800 : Int) = ((33800 : Nat) : Int) from rfl, show ((s / 2 : Nat) : Int) + 32768 * ((bs.getD i 0 : Nat) : Int) = ((s / 2 + 32768 * bs.getD i 0 : Nat) : Int) by omega, this]
      rfl
    · rw [if_neg (by omega), if_neg c]
      congr 1
theorem rstep_ev (s b : Nat) (hs : s < 65536) (hb : b < 256) : Ev (fun k => kotatsuref02_Step.f k (s : Int) (b : Int)) ((Crc.gfeed s (Crc.bitsOf 8 b) : Nat) : Int) := by
  have hbits := bits_ev [b] (by intro n hn; simp at hn; omega) (by simp)
  have e : bitsL [b] = Crc.bitsOf 8 b := by simp [bitsL]
  rw [e] at hbits
  have h := rstep_l0 (Crc.bitsOf 8 b) (Crc.bitsOf_lt 8 b) (by rw [bitsOf_length]; omega) (Crc.bitsOf 8 b).length 0 s (by omega) hs
  unfold kotatsuref02_Step.f
  rw [w64 (by omega) (by omega)]
  refine Ev.bind (f := fun k (t : List Int) => kotatsuref02_Step.l0 k (s : Int) t (t.length : Int) 0) hbits ?_
  rw [cst_length]
  exact h

/-! ### kotatsuref01_Join -/
theorem join_l0 (L : List (List Int)) (hl : L.length < 1000000000) (hsum : L.flatten.length < 140737488355328) (d : Nat) : ∀ i : Nat, i + d = L.length →
    Ev (fun k => kotatsuref01_Join.l0 k (L.take i).flatten L (L.length : Int) (i : Int)) L.flatten := by
  induction d with
  | zero =>
    intro i hi
    rw [List.take_of_length_le (by omega)]
    refine Ev.step (f := fun _ => some L.flatten) (fun k => ?_) (Ev.now _)
    simp only [kotatsuref01_Join.l0]
    rw [if_neg (by omega)]
  | succ d ih =>
    intro i hi
    have e : (L.take (i + 1)).flatten = (L.take i).flatten ++ rd_L3 L (i : Int) := by
      rw [List.take_succ_eq_append_getElem (by omega), List.flatten_append]
      unfold rd_L3
      rw [List.getD_eq_getElem?_getD, Int.toNat_natCast, List.getElem?_eq_getElem (by omega)]
      simp
    have hle : ((L.take (i + 1)).flatten).length ≤ L.flatten.length := by
      have : L.flatten = (L.take (i + 1)).flatten ++ (L.drop (i + 1)).flatten := by rw [← List.flatten_append, List.take_append_drop]
      rw [this, List.length_append]; omega
    rw [e, List.length_append] at hle
    have h1 := ih (i + 1) (by omega)
    rw [e] at h1
    refine Ev.step (f := fun k => kotatsuref01_Join.l0 k ((L.take i).flatten ++ rd_L3 L (i : Int)) L (L.length : Int) ((i + 1 : Nat) : Int)) (fun k => ?_) h1
    simp only [kotatsuref01_Join.l0]
    rw [if_pos (by omega), if_pos (by omega), if_pos (by omega), if_pos (by omega), w64 (by omega) (by omega)]
    rfl
theorem join_ev (L : List (List Int)) (hl : L.length < 1000000000) (hsum : L.flatten.length < 140737488355328) : Ev (fun k => kotatsuref01_Join.f k L) L.flatten := by
  have := join_l0 L hl hsum L.length 0 (by omega)
  simpa [kotatsuref01_Join.f] using this

/-! ### kotatsuref02_Short -/
theorem rshort_l0 (ns : List Nat) (hn : small ns) (hl : ns.length ≤ 140737488351234) (d : Nat) : ∀ i s : Nat, i + d = ns.length → s < 65536 →
    Ev (fun k => kotatsuref02_Short.l0 k (s : Int) (cst ns) (ns.length : Int) (i : Int)) ((Crc.gfeed s (bitsL (ns.drop i)) : Nat) : Int) := by
  induction d with
  | zero =>
    intro i s hi hs
    refine Ev.step (f := fun _ => some (s : Int)) (fun k => ?_) ?_
    · simp only [kotatsuref02_Short.l0]
      rw [if_neg (by omega)]
    · rw [List.drop_eq_nil_of_le (by omega)]
      exact Ev.now _
  | succ d ih =>
    intro i s hi hs
    have hb := getD_small hn i
    rw [drop_getD ns i (by omega), bitsL_cons, Crc.gfeed_append]
    have hs1 := Crc.gfeed_lt (Crc.bitsOf 8 (ns.getD i 0)) s hs (Crc.bitsOf_lt 8 _)
    have h1 := ih (i + 1) _ (by omega) hs1
    refine Ev.step (f := fun k => (kotatsuref02_Step.f k (s : Int) ((ns.getD i 0 : Nat) : Int)).bind fun t => kotatsuref02_Short.l0 k t (cst ns) (ns.length : Int) ((i + 1 : Nat) : Int)) (fun k => ?_) ?_
    · simp only [kotatsuref02_Short.l0]
      rw [if_pos (by omega), if_pos (by omega), if_pos (by rw [cst_length]; omega), rd_cst, w64 (by omega) (by omega)]
      rfl
    · exact Ev.bind (f := fun k t => kotatsuref02_Short.l0 k t (cst ns) (ns.length : Int) ((i + 1 : Nat) : Int)) (rstep_ev s _ hs hb) h1
theorem rshort_ev (ns : List Nat) (hn : small ns) (hl : ns.length ≤ 140737488351232) : Ev (fun k => kotatsuref02_Short.f k (cst ns)) ((shortN ns : Nat) : Int) := by
  have e : [cst ns, [0, 0]].flatten = cst (ns ++ [0, 0]) := by simp [cst]
  have hj := join_ev [cst ns, [0, 0]] (by simp) (by rw [e, cst_length, List.length_append]; simp; omega)
  rw [e] at hj
  have h := rshort_l0 (ns ++ [0, 0]) (small_append hn (by intro n hn; simp at hn; omega)) (by simp; omega) (ns ++ [0, 0]).length 0 32768 (by omega) (by omega)
  unfold kotatsuref02_Short.f
  refine Ev.bind (f := fun k (t : List Int) => kotatsuref02_Short.l0 k 32768 t (t.length : Int) 0) hj ?_
  rw [cst_length]
  exact h

theorem SealSums : kotatsulaw02_SealSums.Pure := by
  intro l0 a1 a2 _ hl0 hw0 hw1 hw2
  obtain ⟨ns, rfl, hs⟩ := cst_of l0 hw0
  rw [cst_length] at hl0
  have h1 : 0 ≤ a1 ∧ a1 ≤ 65535 := by simpa [Lit.wf, IntKind.min, IntKind.max, IntKind.signed, IntKind.bits] using hw1
  have h2 : 0 ≤ a2 ∧ a2 ≤ 255 := by simpa [Lit.wf, IntKind.min, IntKind.max, IntKind.signed, IntKind.bits] using hw2
  obtain ⟨s, rfl⟩ := Int.eq_ofNat_of_zero_le h1.1
  obtain ⟨b, rfl⟩ := Int.eq_ofNat_of_zero_le h2.1
  have hc := cut_ev (cst ns) 100 (by decide) (by rw [cst_length]; omega)
  rw [cst_take] at hc
  have hs' := small_take hs 100
  have hlen : (ns.take 100).length ≤ 100 := List.length_take_le _ _
  refine Ev.rounds (Ev.bind (f := fun k t => if t = true then _ else _) awake_ev ?_)
  simp only [if_true]
  refine Ev.bind (f := fun k t => _) hc ?_
  refine Ev.bind (f := fun k t => _) (long_ev _ hs' (by omega)) ?_
  refine Ev.bind (f := fun k t => _) (rlong_ev _ hs' (by omega)) ?_
  simp only [if_true]
  refine Ev.bind (f := fun k t => _) (short_ev _ hs' (by omega)) ?_
  refine Ev.bind (f := fun k t => _) (rshort_ev _ hs' (by omega)) ?_
  simp only [if_true]
  refine Ev.bind (f := fun k t => _) (step_ev s b (by omega) (by omega)) ?_
  refine Ev.bind (f := fun k t => _) (rstep_ev s b (by omega) (by omega)) ?_
  simp only [beq_self_eq_true]
  exact Ev.now _

end Go.Proofs.Ytinoijjbkbmmdaa.Pure
