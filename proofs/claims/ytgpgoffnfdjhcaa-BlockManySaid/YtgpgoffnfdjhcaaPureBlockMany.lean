/- BlockMany: as many blocks as there may be, and no more: for every input. No condition. -/
import Derived.Test.YtgpgoffnfdjhcaaPBlockManyx2
import Derived.Test.YtgpgoffnfdjhcaaU
namespace Go.Proofs.Ytgpgoffnfdjhcaa.Pure
open Go.RowKit Go.Proofs.Ytgpgoffnfdjhcaa.PBlockMany Go.Proofs.Ytgpgoffnfdjhcaa.U Go.Proofs.YtgpgoffnfdjhcaaW.PrintWords Go.Proofs.YtgpgoffnfdjhcaaW.PrintLast Go.Proofs.YtgpgoffnfdjhcaaW.PrintMore
set_option linter.unusedVariables false
set_option linter.unusedSimpArgs false

/-! ### blocks05 -/
/-! a block: its kind, its bytes -/
abbrev Blk := Nat × List Nat
def small2 (l : List Blk) : Prop := ∀ b ∈ l, b.1 < 256 ∧ small b.2
def b43 (b : Blk) : S43 := ⟨(b.1 : Int), cst b.2⟩
def b61 (b : Blk) : S61 := ⟨(b.1 : Int), cst b.2⟩
def bs43 (l : List Blk) : List S43 := l.map b43
def bs61 (l : List Blk) : List S61 := l.map b61
theorem bs43_len (l : List Blk) : (bs43 l).length = l.length := by simp [bs43]
theorem bs61_len (l : List Blk) : (bs61 l).length = l.length := by simp [bs61]
theorem rd43 (l : List Blk) (i : Nat) : rd_T43 (bs43 l) (i : Int) = b43 (l.getD i (0, [])) := by
  unfold rd_T43 bs43
  rw [List.getD_eq_getElem?_getD, List.getD_eq_getElem?_getD, Int.toNat_natCast, List.getElem?_map]
  cases l[i]? <;> rfl
theorem rd61 (l : List Blk) (i : Nat) : rd_T61 (bs61 l) (i : Int) = b61 (l.getD i (0, [])) := by
  unfold rd_T61 bs61
  rw [List.getD_eq_getElem?_getD, List.getD_eq_getElem?_getD, Int.toNat_natCast, List.getElem?_map]
  cases l[i]? <;> rfl
theorem dropB (l : List Blk) (i : Nat) (h : i < l.length) : l.drop i = l.getD i (0, []) :: l.drop (i + 1) := by
  rw [List.drop_eq_getElem_cons h, List.getD_eq_getElem?_getD, List.getElem?_eq_getElem h]; rfl
theorem takeB (l : List Blk) (i : Nat) (h : i < l.length) : l.take (i + 1) = l.take i ++ [l.getD i (0, [])] := by
  rw [List.take_succ_eq_append_getElem h, List.getD_eq_getElem?_getD, List.getElem?_eq_getElem h]; rfl
theorem getB_mem (l : List Blk) (i : Nat) (h : i < l.length) : l.getD i (0, []) ∈ l := by
  rw [List.getD_eq_getElem?_getD, List.getElem?_eq_getElem h]; exact List.getElem_mem h
def kindN (i : Nat) : Nat := if i < 2 then i + 1 else 3 + i % 2
def bytesN (i : Nat) (last : List Nat) : Nat := if i = 0 then 55 else if i = 1 then 1 else if i % 2 = 0 then 15 else last.getD 12 0 + 256 * last.getD 13 0
def ahead (i : Nat) (last : List Nat) : Prop := 2 ≤ i → i % 2 = 1 → last.length = 15
def fits (i : Nat) (last : List Nat) (b : Blk) : Prop := i < 512 ∧ b.1 = kindN i ∧ b.2.length = bytesN i last
instance (i : Nat) (last : List Nat) (b : Blk) : Decidable (fits i last b) := by unfold fits; exact inferInstance
def rightN : Nat → List Nat → List Blk → Bool
  | _, _, [] => true
  | i, last, b :: l => if fits i last b then rightN (i + 1) b.2 l else false
def sizeN (l : List Blk) : Nat := (l.map fun b => 1 + b.2.length).sum
def flatN (l : List Blk) : List Nat := l.flatMap fun b => b.1 :: b.2
def parseN : Nat → Nat → List Nat → List Nat → List Blk
  | 0, _, _, _ => []
  | _ + 1, _, _, [] => []
  | n + 1, i, last, k :: r => if i < 512 ∧ k = kindN i ∧ bytesN i last ≤ r.length then (k, r.take (bytesN i last)) :: parseN n (i + 1) (r.take (bytesN i last)) (r.drop (bytesN i last)) else []
theorem parseN_cons (n i : Nat) (last : List Nat) (k : Nat) (r : List Nat) : parseN (n + 1) i last (k :: r) = if i < 512 ∧ k = kindN i ∧ bytesN i last ≤ r.length then (k, r.take (bytesN i last)) :: parseN n (i + 1) (r.take (bytesN i last)) (r.drop (bytesN i last)) else [] := rfl
theorem wr3 (a n : Nat) (h : a < 1000000000000) (h2 : n < 1000000000) : wrap64 ((a : Int) + 1) = ((a + 1 : Nat) : Int) ∧ wrap64 (((a + 1 : Nat) : Int) + (n : Int)) = ((a + 1 + n : Nat) : Int) ∧ wrap64 ((a : Int) + wrap64 (1 + (n : Int))) = ((a + 1 + n : Nat) : Int) := by
  refine ⟨?_, ?_, ?_⟩
  · rw [w64 (by omega) (by omega)]; rfl
  · rw [w64 (by omega) (by omega)]; omega
  · rw [w64 (n := 1 + (n : Int)) (by omega) (by omega), w64 (by omega) (by omega)]; omega
theorem kindN_lt (i : Nat) : kindN i < 5 := by unfold kindN; split <;> omega
theorem kindN_pos (i : Nat) : 0 < kindN i := by unfold kindN; split <;> omega
theorem bytesN_lt (i : Nat) {last : List Nat} (hs : small last) : bytesN i last < 65536 := by
  have h0 := getD_small hs 12
  have h1 := getD_small hs 13
  unfold bytesN
  split
  · decide
  split
  · decide
  split
  · decide
  · omega
theorem ahead_next {i : Nat} {last : List Nat} {b : Blk} (h : fits i last b) : ahead (i + 1) b.2 := by
  intro h2 h1
  have h3 := h.2.2
  unfold bytesN at h3
  rw [if_neg (by omega), if_neg (by omega), if_pos (by omega)] at h3
  exact h3
theorem ahead_take {i : Nat} {last r : List Nat} (h : bytesN i last ≤ r.length) : ahead (i + 1) (r.take (bytesN i last)) := by
  intro h2 h1
  rw [List.length_take, Nat.min_eq_left h]
  unfold bytesN
  rw [if_neg (by omega), if_neg (by omega), if_pos (by omega)]
theorem sizeN_append (a b : List Blk) : sizeN (a ++ b) = sizeN a + sizeN b := by simp [sizeN]
theorem sizeN_take (l : List Blk) (i : Nat) (h : i < l.length) : sizeN (l.take (i + 1)) = sizeN (l.take i) + (1 + (l.getD i (0, [])).2.length) := by
  rw [takeB l i h, sizeN_append]; simp [sizeN]
theorem sizeN_le (l : List Blk) (i : Nat) : sizeN (l.take i) ≤ sizeN l := by
  have h := sizeN_append (l.take i) (l.drop i)
  rw [List.take_append_drop] at h
  omega
theorem flatN_len (l : List Blk) : (flatN l).length = sizeN l := by
  unfold flatN sizeN
  rw [List.length_flatMap]
  congr 1
  apply List.map_congr_left
  intro b _
  simp; omega
theorem flatN_append (a b : List Blk) : flatN (a ++ b) = flatN a ++ flatN b := by simp [flatN]
theorem small_flatN {l : List Blk} (h : small2 l) : small (flatN l) := by
  intro x hx
  obtain ⟨b, hb, h2⟩ := List.mem_flatMap.1 hx
  rcases List.mem_cons.1 h2 with h3 | h3
  · rw [h3]; exact (h b hb).1
  · exact (h b hb).2 x h3
/-- what is read may be -/
theorem rightN_parseN (n : Nat) : ∀ (i : Nat) (last p : List Nat), rightN i last (parseN n i last p) = true := by
  induction n with
  | zero => intro i last p; rfl
  | succ n ih =>
    intro i last p
    cases p with
    | nil => rfl
    | cons k r =>
      unfold parseN
      split
      · rename_i h
        unfold rightN
        rw [if_pos ⟨h.1, h.2.1, by rw [List.length_take, Nat.min_eq_left h.2.2]⟩]
        exact ih _ _ _
      · rfl
theorem small2_parseN (n : Nat) : ∀ (i : Nat) (last p : List Nat), small p → small2 (parseN n i last p) := by
  induction n with
  | zero => intro i last p _ b hb; cases hb
  | succ n ih =>
    intro i last p hp
    cases p with
    | nil => intro b hb; cases hb
    | cons k r =>
      unfold parseN
      split
      · rename_i h
        have hr : small r := fun x hx => hp x (List.mem_cons_of_mem _ hx)
        intro b hb
        rcases List.mem_cons.1 hb with rfl | hb
        · exact ⟨hp _ List.mem_cons_self, small_take hr _⟩
        · exact ih _ _ _ (small_drop hr _) b hb
      · intro b hb; cases hb
theorem parseN_len (n : Nat) : ∀ (i : Nat) (last p : List Nat), (parseN n i last p).length ≤ n ∧ sizeN (parseN n i last p) ≤ p.length := by
  induction n with
  | zero => intro i last p; exact ⟨Nat.le_refl _, Nat.zero_le _⟩
  | succ n ih =>
    intro i last p
    cases p with
    | nil => exact ⟨Nat.zero_le _, Nat.zero_le _⟩
    | cons k r =>
      unfold parseN
      split
      · rename_i h
        have := ih (i + 1) (r.take (bytesN i last)) (r.drop (bytesN i last))
        refine ⟨by simp only [List.length_cons]; omega, ?_⟩
        have e : sizeN ((k, r.take (bytesN i last)) :: parseN n (i + 1) (r.take (bytesN i last)) (r.drop (bytesN i last))) = (1 + (r.take (bytesN i last)).length) + sizeN (parseN n (i + 1) (r.take (bytesN i last)) (r.drop (bytesN i last))) := by simp [sizeN]
        rw [e, List.length_take]
        have h2 := this.2
        rw [List.length_drop] at h2
        simp only [List.length_cons]
        omega
      · exact ⟨Nat.zero_le _, Nat.zero_le _⟩
def lastN (out : List Blk) : List Nat := if out.length = 0 then [] else (out.getD (out.length - 1) (0, [])).2
theorem lastN_snoc (out : List Blk) (b : Blk) : lastN (out ++ [b]) = b.2 := by
  unfold lastN
  rw [if_neg (by simp)]
  simp [List.getD_eq_getElem?_getD]
def lastL : List Nat → List Blk → List Nat
  | last, [] => last
  | _, b :: l => lastL b.2 l
theorem lastL_eq (l : List Blk) : ∀ last, lastL last l = if l.length = 0 then last else (l.getD (l.length - 1) (0, [])).2 := by
  induction l with
  | nil => intro last; rfl
  | cons b l ih =>
    intro last
    rw [lastL, ih b.2, if_neg (show ¬ (b :: l).length = 0 by simp)]
    by_cases c : l.length = 0
    · have : l = [] := List.length_eq_zero_iff.1 c
      subst this; rfl
    · rw [if_neg c]
      obtain ⟨n, hn⟩ : ∃ n, l.length = n + 1 := ⟨l.length - 1, by omega⟩
      simp [hn, List.getD_eq_getElem?_getD]
theorem lastN_eq (l : List Blk) : lastN l = lastL [] l := by rw [lastL_eq]; rfl
theorem rightN_ahead (l : List Blk) : ∀ (i : Nat) (last : List Nat), rightN i last l = true → ahead i last → ahead (i + l.length) (lastL last l) := by
  induction l with
  | nil => intro i last _ h; exact h
  | cons b l ih =>
    intro i last h ha
    unfold rightN at h
    by_cases c : fits i last b
    · rw [if_pos c] at h
      have := ih (i + 1) b.2 h (ahead_next c)
      rw [show i + (b :: l).length = i + 1 + l.length by simp; omega]
      exact this
    · rw [if_neg c] at h; cases h
theorem rightN_le (l : List Blk) : ∀ (i : Nat) (last : List Nat), rightN i last l = true → i ≤ 512 → i + l.length ≤ 512 := by
  induction l with
  | nil => intro i last _ h; exact h
  | cons b l ih =>
    intro i last h hi
    unfold rightN at h
    by_cases c : fits i last b
    · rw [if_pos c] at h
      have := ih (i + 1) b.2 h c.1
      simp only [List.length_cons]; omega
    · rw [if_neg c] at h; cases h
/-- blocks that may be are read again, whatever stands behind them -/
theorem parseN_right (l : List Blk) : ∀ (n i : Nat) (last more : List Nat), rightN i last l = true → l.length ≤ n → parseN n i last (flatN l ++ more) = l ++ parseN (n - l.length) (i + l.length) (lastL last l) more := by
  induction l with
  | nil => intro n i last more _ _; rfl
  | cons b l ih =>
    intro n i last more h hn
    unfold rightN at h
    by_cases c : fits i last b
    · rw [if_pos c] at h
      obtain ⟨n, rfl⟩ : ∃ m, n = m + 1 := ⟨n - 1, by simp only [List.length_cons] at hn; omega⟩
      have e : flatN (b :: l) ++ more = b.1 :: (b.2 ++ (flatN l ++ more)) := by simp [flatN]
      have hl := c.2.2
      rw [e, parseN_cons, if_pos ⟨c.1, c.2.1, by rw [List.length_append]; omega⟩, ← hl, List.take_left', List.drop_left', ih n (i + 1) b.2 more h (by simp only [List.length_cons] at hn; omega)]
      · simp only [List.length_cons, List.cons_append, lastL]
        rw [show n + 1 - (l.length + 1) = n - l.length by omega, show i + (l.length + 1) = i + 1 + l.length by omega]
      · rfl
      · rfl
    · rw [if_neg c] at h; cases h
theorem parseN_full (n i : Nat) (last p : List Nat) (h : 512 ≤ i) : parseN n i last p = [] := by
  cases n with
  | zero => rfl
  | succ n =>
    cases p with
    | nil => rfl
    | cons k r => rw [parseN_cons, if_neg (by omega)]
theorem parseN_nil (n i : Nat) (last : List Nat) : parseN n i last [] = [] := by cases n <;> rfl
theorem small2_getB {l : List Blk} (h : small2 l) : small (lastN l) := by
  unfold lastN
  split
  · intro x hx; cases hx
  · exact (h _ (getB_mem l _ (by omega))).2

/-! ### block_Disk -/
theorem disk_f (s : ByteArray) (side : Int) (ll : List (List S43)) (h : (ll.map List.length).sum ≤ 1000000000) (h2 : ll.length ≤ 1000000000) : block_Disk.f s side ll = some ([⟨1, block_Disk.head s side⟩, ⟨2, [(ll.length : Int) % 256]⟩] ++ ll.flatten) := by
  unfold block_Disk.f
  rw [if_pos ⟨h, h2⟩]
/-- the first block's bytes, as numbers -/
theorem head_cst (s : ByteArray) (side : Nat) (hs : side < 256) : ∃ ns, block_Disk.head s (side : Int) = cst ns ∧ small ns ∧ ns.length = 55 := by
  have hl := block_Disk.head_len s (side : Int)
  have hb : ∀ x ∈ block_Disk.head s (side : Int), (Lit.int .u8 x).wf = true := by
    have hw : ∀ x : Int, 0 ≤ x → x < 256 → (Lit.int .u8 x).wf = true := by
      intro x h0 h1
      simp [Lit.wf, IntKind.min, IntKind.max, IntKind.signed, IntKind.bits]
      omega
    intro x hx
    unfold block_Disk.head at hx
    rcases List.mem_or_eq_of_mem_set hx with h | h
    · unfold H.spl at h
      rcases List.mem_append.1 h with h | h
      · rw [List.eq_of_mem_replicate (List.mem_of_mem_take h)]; exact hw 0 (by omega) (by omega)
      · rcases List.mem_append.1 h with h | h
        · obtain ⟨b, _, rfl⟩ := List.mem_map.1 (List.mem_of_mem_take h)
          have := b.toNat_lt
          exact hw _ (by omega) (by omega)
        · rw [List.eq_of_mem_replicate (List.mem_of_mem_drop h)]; exact hw 0 (by omega) (by omega)
    · rw [h]; exact hw _ (by omega) (by omega)
  obtain ⟨ns, e, hsm⟩ := cst_of _ hb
  exact ⟨ns, e, hsm, by rw [← cst_length, ← e, hl]⟩

/-! ### block_expects -/
theorem expects_f (i : Nat) (last : List Nat) (hs : small last) (ha : ahead i last) : block_expects.f (i : Int) (cst last) = some (if i < 512 then (((kindN i : Nat) : Int), ((bytesN i last : Nat) : Int)) else (0, 0)) := by
  have h0 := getD_small hs 12
  have h1 := getD_small hs 13
  have hm : Int.tmod (i : Int) 2 = ((i % 2 : Nat) : Int) := by rw [Int.tmod_eq_emod_of_nonneg (by omega)]; omega
  unfold block_expects.f kindN bytesN
  by_cases c : i < 512
  · rw [if_neg (by omega), if_pos c]
    by_cases c0 : i = 0
    · rw [if_pos (by omega), if_pos (by omega), if_pos c0, c0]; rfl
    by_cases c1 : i = 1
    · rw [if_neg (by omega), if_pos (by omega), if_pos (by omega), if_neg c0, if_pos c1, c1]; rfl
    rw [hm, if_neg (show ¬ (i : Int) = 0 by omega), if_neg (show ¬ (i : Int) = 1 by omega), if_neg (show ¬ i < 2 by omega), if_neg c0, if_neg c1]
    by_cases c2 : i % 2 = 0
    · rw [if_pos (by omega), if_pos c2, c2]; rfl
    · have hl := ha (by omega) (by omega)
      rw [if_neg (show ¬ ((i % 2 : Nat) : Int) = 0 by omega), if_neg c2, if_pos (by rw [cst_length]; omega), if_pos (by rw [cst_length]; omega), show i % 2 = 1 by omega]
      have e12 := rd_cst last 12
      have e13 := rd_cst last 13
      rw [show ((12 : Nat) : Int) = 12 from rfl] at e12
      rw [show ((13 : Nat) : Int) = 13 from rfl] at e13
      rw [e12, e13, w64 (n := ((last.getD 12 0 : Nat) : Int)) (by omega) (by omega), w64 (n := ((last.getD 13 0 : Nat) : Int)) (by omega) (by omega), w64 (by omega) (by omega)]
      have := bits_join_low .i64 63 (by decide) wraps_i64 8 ((last.getD 12 0 : Nat) : Int) (((last.getD 13 0 : Nat) : Int) * 256) (by omega) (by omega) (by omega) (by omega) (by omega) (by omega)
      rw [this]
      congr 2
      omega
  · rw [if_pos (by omega), if_neg c]

/-! ### block_Right -/
theorem right_l0 (l : List Blk) (hs : small2 l) (hl : l.length < 1000000000000) (d : Nat) : ∀ (i : Nat) (last : List Nat), i + d = l.length → small last → ahead i last →
    Ev (fun k => block_Right.l0 k (cst last) (bs43 l) (l.length : Int) (i : Int)) (rightN i last (l.drop i)) := by
  induction d with
  | zero =>
    intro i last hi _ _
    rw [List.drop_eq_nil_of_le (by omega)]
    refine Ev.step (f := fun _ => some true) (fun k => ?_) (Ev.now _)
    simp only [block_Right.l0]
    rw [if_neg (by omega)]
  | succ d ih =>
    intro i last hi hsl ha
    have hm := hs _ (getB_mem l i (by omega))
    rw [dropB l i (by omega)]
    generalize hb : l.getD i (0, []) = b at *
    have hk := kindN_lt i
    have hkp := kindN_pos i
    have hbl := bytesN_lt i hsl
    unfold rightN
    by_cases c : fits i last b
    · rw [if_pos c]
      refine Ev.step (f := fun k => block_Right.l0 k (cst b.2) (bs43 l) (l.length : Int) ((i + 1 : Nat) : Int)) (fun k => ?_) (ih (i + 1) b.2 (by omega) hm.2 (ahead_next c))
      simp only [block_Right.l0]
      rw [if_pos (by omega), if_pos (by omega), if_pos (by rw [bs43_len]; omega), expects_f i last hsl ha, rd43, hb]
      simp only [Option.bind_some, if_pos c.1, b43, cst_length]
      rw [if_pos (by rw [c.2.1]), if_pos (by rw [c.2.2]), if_neg (by omega), w64 (by omega) (by omega)]
      rfl
    · rw [if_neg c]
      refine Ev.step (f := fun _ => some false) (fun k => ?_) (Ev.now _)
      simp only [block_Right.l0]
      rw [if_pos (by omega), if_pos (by omega), if_pos (by rw [bs43_len]; omega), expects_f i last hsl ha, rd43, hb]
      simp only [Option.bind_some, b43, cst_length]
      unfold fits at c
      by_cases c0 : i < 512
      · simp only [if_pos c0]
        by_cases c1 : b.1 = kindN i
        · rw [if_pos (by rw [c1]), if_neg (fun h => c ⟨c0, c1, by omega⟩)]
        · rw [if_neg (by omega)]
      · simp only [if_neg c0]
        split
        · split
          · rfl
          · rfl
        · rfl
theorem right_ev (l : List Blk) (hs : small2 l) (hl : l.length < 1000000000000) : Ev (fun k => block_Right.f k (bs43 l)) (rightN 0 [] l) := by
  have := right_l0 l hs hl l.length 0 [] (by omega) (fun _ h => by cases h) (fun h => by omega)
  rw [List.drop_zero] at this
  unfold block_Right.f
  rw [bs43_len]
  exact this

/-! ### block_Size -/
theorem size_l0 (l : List Blk) (hl : sizeN l < 1000000000000) (hll : l.length < 1000000000000) (d : Nat) : ∀ i : Nat, i + d = l.length →
    Ev (fun k => block_Size.l0 k ((sizeN (l.take i) : Nat) : Int) (bs43 l) (l.length : Int) (i : Int)) ((sizeN l : Nat) : Int) := by
  induction d with
  | zero =>
    intro i hi
    rw [List.take_of_length_le (by omega)]
    refine Ev.step (f := fun _ => some ((sizeN l : Nat) : Int)) (fun k => ?_) (Ev.now _)
    simp only [block_Size.l0]
    rw [if_neg (by omega)]
  | succ d ih =>
    intro i hi
    have h1 := ih (i + 1) (by omega)
    have hle := sizeN_le l (i + 1)
    have e := sizeN_take l i (by omega)
    refine Ev.step (f := fun k => block_Size.l0 k ((sizeN (l.take (i + 1)) : Nat) : Int) (bs43 l) (l.length : Int) ((i + 1 : Nat) : Int)) (fun k => ?_) h1
    simp only [block_Size.l0]
    rw [if_pos (by omega), if_pos (by omega), if_pos (by rw [bs43_len]; omega), rd43]
    simp only [b43, cst_length]
    rw [w64 (n := 1 + _) (by omega) (by omega), w64 (n := ((sizeN (l.take i) : Nat) : Int) + _) (by omega) (by omega), w64 (by omega) (by omega)]
    congr 1
    omega
theorem size_ev (l : List Blk) (hl : sizeN l < 1000000000000) (hll : l.length < 1000000000000) : Ev (fun k => block_Size.f k (bs43 l)) ((sizeN l : Nat) : Int) := by
  have := size_l0 l hl hll l.length 0 (by omega)
  unfold block_Size.f
  rw [bs43_len]
  exact this

/-! ### kotatsulaw05_awake -/
theorem awake_ev : Ev (fun k => kotatsulaw05_awake.f k) true := by
  obtain ⟨ns, e, hs, hl⟩ := head_cst (⟨#[42]⟩ : ByteArray) 0 (by decide)
  have hd := disk_f (⟨#[42]⟩ : ByteArray) 0 [] (by simp) (by simp)
  have eb : ([⟨1, block_Disk.head (⟨#[42]⟩ : ByteArray) 0⟩, ⟨2, [((([] : List (List S43)).length : Nat) : Int) % 256]⟩] ++ ([] : List (List S43)).flatten : List S43) = bs43 [(1, ns), (2, [0])] := by
    rw [show block_Disk.head (⟨#[42]⟩ : ByteArray) 0 = cst ns from e]; simp [bs43, b43, cst]
  rw [eb] at hd
  have hs2 : small2 [(1, ns), (2, [0])] := by
    intro b hb
    simp only [List.mem_cons, List.not_mem_nil, or_false] at hb
    rcases hb with rfl | rfl
    · exact ⟨by show 1 < 256; decide, hs⟩
    · exact ⟨by decide, fun x hx => by simp at hx; omega⟩
  have hsz := size_ev [(1, ns), (2, [0])] (by simp [sizeN, hl]) (by simp)
  rw [show sizeN [(1, ns), (2, [0])] = 58 by simp [sizeN, hl]] at hsz
  have hr := right_ev [(1, ns), (2, [0])] hs2 (by simp)
  rw [show rightN 0 [] [(1, ns), (2, [0])] = true by simp [rightN, fits, kindN, bytesN, hl]] at hr
  have hr2 := right_ev [(2, [0])] (fun b hb => hs2 b (List.mem_cons_of_mem _ hb)) (by simp)
  rw [show rightN 0 [] [(2, [0])] = false by simp [rightN, fits, kindN]] at hr2
  refine Ev.congr (f := fun k => (block_Size.f k (bs43 [(1, ns), (2, [0])])).bind fun t => if t = 58 then (block_Right.f k (bs43 [(1, ns), (2, [0])])).bind fun t => if t = true then if (1 : Int) ≤ ((bs43 [(1, ns), (2, [0])]).length : Int) then (block_Right.f k ((bs43 [(1, ns), (2, [0])]).drop 1)).bind fun t => some (!t) else none else some false else some false) (fun k => ?_) ?_
  · unfold kotatsulaw05_awake.f
    rw [hd]
    rfl
  · refine Ev.bind (f := fun k t => if t = 58 then _ else _) hsz ?_
    simp only [show (((58 : Nat) : Int) = 58) from rfl, if_true]
    refine Ev.bind (f := fun k t => if t = true then _ else _) hr ?_
    simp only [if_true, bs43_len, List.length_cons, List.length_nil, show ((1 : Int) ≤ ((0 + 1 + 1 : Nat) : Int)) from by decide]
    rw [show (bs43 [(1, ns), (2, [0])]).drop 1 = bs43 [(2, [0])] from rfl]
    exact Ev.bind (f := fun k t => some (!t)) hr2 (Ev.now _)

/-! ### kotatsuref01_Join -/
theorem join_l0 (L : List (List Int)) (hl : L.length < 1000000000) (hsum : L.flatten.length < 140737488355328) (d : Nat) : ∀ i : Nat, i + d = L.length →
    Ev (fun k => kotatsuref01_Join.l0 k (L.take i).flatten L (L.length : Int) (i : Int)) L.flatten := by
  induction d with
  | zero =>
    intro i hi
    rw [List.take_of_length_le (by omega)]
    refine Ev.step (f := fun _ => some L.flatten) (fun k => ?_) (Ev.now _)
    simp only [kotatsuref01_Join.l0]
    rw [if_neg (by omega)]
  | succ d ih =>
    intro i hi
    have e : (L.take (i + 1)).flatten = (L.take i).flatten ++ rd_L1 L (i : Int) := by
      rw [List.take_succ_eq_append_getElem (by omega), List.flatten_append]
      unfold rd_L1
      rw [List.getD_eq_getElem?_getD, Int.toNat_natCast, List.getElem?_eq_getElem (by omega)]
      simp
    have hle : ((L.take (i + 1)).flatten).length ≤ L.flatten.length := by
      have : L.flatten = (L.take (i + 1)).flatten ++ (L.drop (i + 1)).flatten := by rw [← List.flatten_append, List.take_append_drop]
      rw [this, List.length_append]; omega
    rw [e, List.length_append] at hle
    have h1 := ih (i + 1) (by omega)
    rw [e] at h1
    refine Ev.step (f := fun k => kotatsuref01_Join.l0 k ((L.take i).flatten ++ rd_L1 L (i : Int)) L (L.length : Int) ((i + 1 : Nat) : Int)) (fun k => ?_) h1
    simp only [kotatsuref01_Join.l0]
    rw [if_pos (by omega), if_pos (by omega), if_pos (by omega), if_pos (by omega), w64 (by omega) (by omega)]
    rfl
theorem join_ev (L : List (List Int)) (hl : L.length < 1000000000) (hsum : L.flatten.length < 140737488355328) : Ev (fun k => kotatsuref01_Join.f k L) L.flatten := by
  have := join_l0 L hl hsum L.length 0 (by omega)
  simpa [kotatsuref01_Join.f] using this

/-! ### kotatsuref05_Flat -/
theorem flat_l0 (l : List Blk) (hl : sizeN l < 1000000000000) (hll : l.length < 1000000000000) (d : Nat) : ∀ i : Nat, i + d = l.length →
    Ev (fun k => kotatsuref05_Flat.l0 k (cst (flatN (l.take i))) (bs61 l) (l.length : Int) (i : Int)) (cst (flatN l)) := by
  induction d with
  | zero =>
    intro i hi
    rw [List.take_of_length_le (by omega)]
    refine Ev.step (f := fun _ => some (cst (flatN l))) (fun k => ?_) (Ev.now _)
    simp only [kotatsuref05_Flat.l0]
    rw [if_neg (by omega)]
  | succ d ih =>
    intro i hi
    have h1 := ih (i + 1) (by omega)
    have hle := sizeN_le l (i + 1)
    have e := takeB l i (by omega)
    have hs := sizeN_take l i (by omega)
    have hf := flatN_len (l.take i)
    have e2 : cst (flatN (l.take (i + 1))) = [cst (flatN (l.take i)), [((l.getD i (0, [])).1 : Int)], cst (l.getD i (0, [])).2].flatten := by
      rw [e, flatN_append]
      simp [flatN, cst]
    have hj := join_ev [cst (flatN (l.take i)), [((l.getD i (0, [])).1 : Int)], cst (l.getD i (0, [])).2] (by simp) (by rw [← e2, cst_length, flatN_len]; omega)
    rw [← e2] at hj
    refine Ev.step (f := fun k => (kotatsuref01_Join.f k [cst (flatN (l.take i)), [((l.getD i (0, [])).1 : Int)], cst (l.getD i (0, [])).2]).bind fun t => kotatsuref05_Flat.l0 k t (bs61 l) (l.length : Int) ((i + 1 : Nat) : Int)) (fun k => ?_) (Ev.bind (f := fun k t => kotatsuref05_Flat.l0 k t (bs61 l) (l.length : Int) ((i + 1 : Nat) : Int)) hj h1)
    simp only [kotatsuref05_Flat.l0]
    rw [if_pos (by omega), if_pos (by omega), if_pos (by rw [bs61_len]; omega), rd61, w64 (by omega) (by omega)]
    rfl
theorem flat_ev (l : List Blk) (hl : sizeN l < 1000000000000) (hll : l.length < 1000000000000) : Ev (fun k => kotatsuref05_Flat.f k (bs61 l)) (cst (flatN l)) := by
  have := flat_l0 l hl hll l.length 0 (by omega)
  unfold kotatsuref05_Flat.f
  rw [bs61_len]
  exact this

/-! ### own05 -/
theorem own_l0 (l : List Blk) (hll : l.length < 1000000000) (d : Nat) : ∀ i : Nat, i + d = l.length →
    Ev (fun k => kotatsulaw05_own.l0 k (bs61 (l.take i)) (bs43 l) (l.length : Int) (i : Int)) (bs61 l) := by
  induction d with
  | zero =>
    intro i hi
    rw [List.take_of_length_le (by omega)]
    refine Ev.step (f := fun _ => some (bs61 l)) (fun k => ?_) (Ev.now _)
    simp only [kotatsulaw05_own.l0]
    rw [if_neg (by omega)]
  | succ d ih =>
    intro i hi
    have h1 := ih (i + 1) (by omega)
    have e : bs61 (l.take (i + 1)) = bs61 (l.take i) ++ [b61 (l.getD i (0, []))] := by
      rw [takeB l i (by omega)]; simp [bs61]
    rw [e] at h1
    refine Ev.step (f := fun k => kotatsulaw05_own.l0 k (bs61 (l.take i) ++ [b61 (l.getD i (0, []))]) (bs43 l) (l.length : Int) ((i + 1 : Nat) : Int)) (fun k => ?_) h1
    simp only [kotatsulaw05_own.l0]
    rw [if_pos (by omega), if_pos (by omega), if_pos (by rw [bs43_len]; omega), if_pos (by rw [bs61_len, List.length_take]; omega), rd43, w64 (by omega) (by omega)]
    rfl
theorem own_ev (l : List Blk) (hll : l.length < 1000000000) : Ev (fun k => kotatsulaw05_own.f k (bs43 l)) (bs61 l) := by
  have := own_l0 l hll l.length 0 (by omega)
  unfold kotatsulaw05_own.f
  rw [bs43_len]
  exact this

/-! ### kotatsulaw05_own -/

/-! ### bytes_Clone -/
theorem clone_f (l : List Int) (h : l.length ≤ 140737488355328) : bytes_Clone.f l = some l := by
  unfold bytes_Clone.f
  rw [if_pos h]

/-! ### block_Parse -/
theorem parse_eq (p : List Nat) (out : List Blk) (last : List Nat) (at_ nb kd : Nat) (hex : block_expects.f (out.length : Int) (cst last) = some ((kd : Int), (nb : Int))) (hkd : 0 < kd) (hnb : nb < 65536) (hp : p.length < 1000000000000) (hat : at_ ≤ p.length) (hout : out.length < 512) (k : Nat) :
    block_Parse.l0 (k + 1) (cst p) (bs43 out) (cst last) (at_ : Int) = if p.length - at_ < 1 + nb then some (bs43 out, (at_ : Int)) else if p.getD at_ 0 = kd then block_Parse.l0 k (cst p) (bs43 (out ++ [(p.getD at_ 0, (p.drop (at_ + 1)).take nb)])) (cst ((p.drop (at_ + 1)).take nb)) ((at_ + 1 + nb : Nat) : Int) else some (bs43 out, (at_ : Int)) := by
  simp only [block_Parse.l0]
  rw [bs43_len, hex]
  simp only [Option.bind_some, cst_length]
  have w0 : wrap64 ((p.length : Int) - (at_ : Int)) = ((p.length - at_ : Nat) : Int) := by rw [w64 (by omega) (by omega)]; omega
  have w9 : wrap64 (1 + (nb : Int)) = ((1 + nb : Nat) : Int) := by rw [w64 (by omega) (by omega)]; omega
  obtain ⟨w1, w2, w3⟩ := wr3 at_ nb (by omega) (by omega)
  rw [w9] at w3
  rw [if_neg (show ¬ (kd : Int) = 0 by omega), w0, w9, w1, w2, w3]
  clear w0 w9 w1 w2 w3 hex
  by_cases c1 : p.length - at_ < 1 + nb
  · rw [if_pos (by omega), if_pos c1]
  · rw [if_neg (by omega), if_neg c1, if_pos (by omega), if_pos (by omega), rd_cst]
    by_cases c2 : p.getD at_ 0 = kd
    · subst c2
      have hcl : ((p.drop (at_ + 1)).take nb).length = nb := by rw [List.length_take, List.length_drop]; omega
      have ec : ((cst p).take (at_ + 1 + nb)).drop (at_ + 1) = cst ((p.drop (at_ + 1)).take nb) := by
        rw [cst_take, cst_drop, List.drop_take]
        congr 2
        omega
      rw [if_pos rfl, if_pos rfl, if_pos (by omega), if_pos (by omega), if_pos (by omega), Int.toNat_natCast, Int.toNat_natCast, ec, clone_f _ (by rw [cst_length, hcl]; omega)]
      simp only [Option.bind_some]
      rw [if_pos (by omega), show bs43 (out ++ [(p.getD at_ 0, (p.drop (at_ + 1)).take nb)]) = bs43 out ++ [⟨((p.getD at_ 0 : Nat) : Int), cst ((p.drop (at_ + 1)).take nb)⟩] by simp [bs43, b43]]
    · rw [if_neg (by omega), if_neg c2]
theorem parse_l0 (p : List Nat) (hs : small p) (hp : p.length < 1000000000000) (n : Nat) : ∀ (at_ : Nat) (out : List Blk) (last : List Nat), at_ ≤ p.length → p.length - at_ < n → small last → ahead out.length last →
    Ev (fun k => block_Parse.l0 k (cst p) (bs43 out) (cst last) (at_ : Int)) (bs43 (out ++ parseN n out.length last (p.drop at_)), ((at_ + sizeN (parseN n out.length last (p.drop at_)) : Nat) : Int)) := by
  induction n with
  | zero => intro at_ out last _ h; omega
  | succ n ih =>
    intro at_ out last hat hn hsl ha
    have hkp := kindN_pos out.length
    have hbl := bytesN_lt out.length hsl
    have hex := expects_f out.length last hsl ha
    have hstop : parseN (n + 1) out.length last (p.drop at_) = [] → (∀ k, block_Parse.l0 (k + 1) (cst p) (bs43 out) (cst last) (at_ : Int) = some (bs43 out, (at_ : Int))) →
        Ev (fun k => block_Parse.l0 k (cst p) (bs43 out) (cst last) (at_ : Int)) (bs43 (out ++ parseN (n + 1) out.length last (p.drop at_)), ((at_ + sizeN (parseN (n + 1) out.length last (p.drop at_)) : Nat) : Int)) := by
      intro e h
      rw [e, List.append_nil]
      exact Ev.step (f := fun _ => some (bs43 out, (at_ : Int))) h (Ev.now _)
    by_cases c0 : out.length < 512
    · rw [if_pos c0] at hex
      have heq := parse_eq p out last at_ (bytesN out.length last) (kindN out.length) hex hkp hbl hp hat c0
      by_cases c1 : p.length - at_ < 1 + bytesN out.length last
      · refine hstop ?_ (fun k => by rw [heq k, if_pos c1])
        cases hd : p.drop at_ with
        | nil => rfl
        | cons k r =>
          have : (p.drop at_).length = r.length + 1 := by rw [hd]; rfl
          rw [List.length_drop] at this
          rw [parseN_cons, if_neg (by omega)]
      · have hd : p.drop at_ = p.getD at_ 0 :: p.drop (at_ + 1) := drop_getD p at_ (by omega)
        by_cases c2 : p.getD at_ 0 = kindN out.length
        · have hlen : bytesN out.length last ≤ (p.drop (at_ + 1)).length := by rw [List.length_drop]; omega
          have hcl : ((p.drop (at_ + 1)).take (bytesN out.length last)).length = bytesN out.length last := by rw [List.length_take, Nat.min_eq_left hlen]
          have h1 := ih (at_ + 1 + bytesN out.length last) (out ++ [(p.getD at_ 0, (p.drop (at_ + 1)).take (bytesN out.length last))]) ((p.drop (at_ + 1)).take (bytesN out.length last)) (by omega) (by omega) (small_take (small_drop hs _) _) (by rw [List.length_append]; exact ahead_take hlen)
          rw [List.length_append, List.length_singleton, List.append_assoc, List.singleton_append] at h1
          have e : parseN (n + 1) out.length last (p.drop at_) = (p.getD at_ 0, (p.drop (at_ + 1)).take (bytesN out.length last)) :: parseN n (out.length + 1) ((p.drop (at_ + 1)).take (bytesN out.length last)) (p.drop (at_ + 1 + bytesN out.length last)) := by
            rw [hd, parseN_cons, if_pos ⟨c0, c2, hlen⟩, List.drop_drop]
          have ez : (at_ + 1 + bytesN out.length last) + sizeN (parseN n (out.length + 1) ((p.drop (at_ + 1)).take (bytesN out.length last)) (p.drop (at_ + 1 + bytesN out.length last))) = at_ + sizeN (parseN (n + 1) out.length last (p.drop at_)) := by
            rw [e]
            simp only [sizeN, List.map_cons, List.sum_cons, hcl]
            omega
          rw [ez, ← e] at h1
          exact Ev.step (f := fun k => block_Parse.l0 k (cst p) (bs43 (out ++ [(p.getD at_ 0, (p.drop (at_ + 1)).take (bytesN out.length last))])) (cst ((p.drop (at_ + 1)).take (bytesN out.length last))) ((at_ + 1 + bytesN out.length last : Nat) : Int)) (fun k => by rw [heq k, if_neg c1, if_pos c2]) h1
        · refine hstop ?_ (fun k => by rw [heq k, if_neg c1, if_neg c2])
          rw [hd, parseN_cons, if_neg (fun h => c2 h.2.1)]
    · rw [if_neg c0] at hex
      refine hstop ?_ (fun k => ?_)
      · cases hd : p.drop at_ with
        | nil => rfl
        | cons k r => rw [parseN_cons, if_neg (fun h => c0 h.1)]
      · simp only [block_Parse.l0]
        rw [bs43_len, hex]
        rfl
theorem parse_ev (p : List Nat) (hs : small p) (hp : p.length < 1000000000000) : Ev (fun k => block_Parse.f k (cst p)) (bs43 (parseN (p.length + 1) 0 [] p), ((sizeN (parseN (p.length + 1) 0 [] p) : Nat) : Int)) := by
  have := parse_l0 p hs hp (p.length + 1) 0 [] [] (Nat.zero_le _) (by omega) (fun _ h => by cases h) (fun h => by simp at h)
  simp only [List.drop_zero, List.nil_append, Nat.zero_add, List.length_nil] at this
  exact this

/-! ### block_Want -/
def wantN (l : List Blk) : Nat × Nat := if rightN 0 [] l = true ∧ l.length < 512 then (kindN l.length, bytesN l.length (lastN l)) else (0, 0)
theorem want_ev (l : List Blk) (hs : small2 l) (hl : l.length < 1000000000) : Ev (fun k => block_Want.f k (bs43 l)) (((wantN l).1 : Nat), ((wantN l).2 : Nat)) := by
  have hr := right_ev l hs (by omega)
  unfold block_Want.f
  refine Ev.bind (f := fun k t => if t = true then _ else _) hr ?_
  unfold wantN
  by_cases c : rightN 0 [] l = true
  · have ha : ahead l.length (lastN l) := by
      have := rightN_ahead l 0 [] c (fun h => by omega)
      rw [lastN_eq]; simpa using this
    have hex := expects_f l.length (lastN l) (small2_getB hs) ha
    have hpair : (if l.length < 512 then (((kindN l.length : Nat) : Int), ((bytesN l.length (lastN l) : Nat) : Int)) else ((0 : Int), (0 : Int))) = ((((if rightN 0 [] l = true ∧ l.length < 512 then (kindN l.length, bytesN l.length (lastN l)) else (0, 0)).1 : Nat) : Int), (((if rightN 0 [] l = true ∧ l.length < 512 then (kindN l.length, bytesN l.length (lastN l)) else (0, 0)).2 : Nat) : Int)) := by
      by_cases c1 : l.length < 512
      · rw [if_pos c1, if_pos ⟨c, c1⟩]
      · rw [if_neg c1, if_neg (fun h => c1 h.2)]; rfl
    rw [← hpair]
    simp only [c, if_true]
    refine Ev.congr (fun k => ?_) (Ev.now _)
    rw [bs43_len]
    by_cases c3 : l.length = 0
    · rw [if_neg (by omega)]
      have e0 : lastN l = [] := by unfold lastN; rw [if_pos c3]
      rw [e0] at hex ⊢
      rw [show ([] : List Int) = cst [] from rfl, hex]
      rfl
    · have e0 : lastN l = (l.getD (l.length - 1) (0, [])).2 := by unfold lastN; rw [if_neg c3]
      have w5 : wrap64 ((l.length : Int) - 1) = ((l.length - 1 : Nat) : Int) := by rw [w64 (by omega) (by omega)]; omega
      rw [if_pos (by omega), w5, if_pos (by omega), if_pos (by omega), rd43]
      simp only [b43]
      rw [← e0, hex]
      rfl
  · rw [show (if rightN 0 [] l = true ∧ l.length < 512 then (kindN l.length, bytesN l.length (lastN l)) else (0, 0)) = ((0, 0) : Nat × Nat) from if_neg (fun h => c h.1)]
    simp only [c, Bool.false_eq_true, if_false]
    exact Ev.now _

/-! ### block_File -/
theorem fhead_len (a0 a1 : Int) (a2 : ByteArray) (a3 a4 n : Int) : (block_File.head a0 a1 a2 a3 a4 n).length = 15 := by
  unfold block_File.head
  rw [List.length_append, List.length_append, H.spl_length _ _ _ (by simp; omega)]
  rfl

/-- a file of nothing -/
def z15 : List Nat := List.replicate 15 0
def pairs : Nat → List Blk
  | 0 => []
  | m + 1 => (3, z15) :: (4, []) :: pairs m
theorem pairs_len (m : Nat) : (pairs m).length = 2 * m := by
  induction m with
  | zero => rfl
  | succ m ih => simp only [pairs, List.length_cons, ih]; omega
theorem pairs_size (m : Nat) : sizeN (pairs m) = 17 * m := by
  induction m with
  | zero => rfl
  | succ m ih =>
    have : sizeN (pairs (m + 1)) = 17 + sizeN (pairs m) := by simp [pairs, sizeN, z15]; omega
    rw [this, ih]; omega
theorem pairs_small (m : Nat) : small2 (pairs m) := by
  induction m with
  | zero => intro b hb; cases hb
  | succ m ih =>
    intro b hb
    rcases List.mem_cons.1 hb with rfl | hb
    · exact ⟨by decide, fun x hx => by rw [List.eq_of_mem_replicate hx]; decide⟩
    rcases List.mem_cons.1 hb with rfl | hb
    · exact ⟨by decide, fun x hx => by cases hx⟩
    · exact ih b hb
theorem pairs_right (m : Nat) : ∀ (i : Nat) (last : List Nat), 2 ≤ i → i % 2 = 0 → rightN i last (pairs m) = decide (m = 0 ∨ i + 2 * m ≤ 512) := by
  induction m with
  | zero => intro i last _ _; simp [pairs, rightN]
  | succ m ih =>
    intro i last h2 he
    have hi := ih (i + 1 + 1) [] (by omega) (by omega)
    simp only [pairs, rightN]
    by_cases c : i + 1 < 512
    · have f1 : fits i last (3, z15) := ⟨by omega, by unfold kindN; rw [if_neg (by omega)]; simp only; omega, by unfold bytesN; rw [if_neg (by omega), if_neg (by omega), if_pos he]; rfl⟩
      have f2 : fits (i + 1) z15 (4, []) := ⟨c, by unfold kindN; rw [if_neg (by omega)]; simp only; omega, by unfold bytesN; rw [if_neg (by omega), if_neg (by omega), if_neg (by omega)]; rfl⟩
      rw [if_pos f1, if_pos f2, hi]
      by_cases c0 : m = 0
      · subst c0; simp; omega
      · by_cases c3 : i + 1 + 1 + 2 * m ≤ 512
        · rw [decide_eq_true (Or.inr c3), decide_eq_true (Or.inr (by omega))]
        · rw [decide_eq_false (by omega), decide_eq_false (by omega)]
    · have nf2 : ¬ fits (i + 1) z15 (4, []) := fun h => c h.1
      rw [if_neg nf2, decide_eq_false (by omega)]
      split <;> rfl
theorem pairs_add (a b : Nat) : pairs (a + b) = pairs a ++ pairs b := by
  induction a with
  | zero => simp [pairs]
  | succ a ih => rw [show a + 1 + b = (a + b) + 1 by omega]; simp [pairs, ih]
theorem file_nil : block_File.f 0 0 (⟨#[]⟩ : ByteArray) 0 0 [] = some (bs43 [(3, z15), (4, [])]) := by
  unfold block_File.f
  rw [if_neg (by simp)]
  rfl
theorem flat_pairs (m : Nat) : (List.replicate m (bs43 [(3, z15), (4, [])])).flatten = bs43 (pairs m) := by
  induction m with
  | zero => rfl
  | succ m ih => rw [List.replicate_succ, List.flatten_cons, ih]; rfl
/-- all blocks -/
def many (hd : List Nat) (m : Nat) : List Blk := (1, hd) :: (2, [m % 256]) :: pairs m
def many2 (hd : List Nat) (m j : Nat) : List Blk := (1, hd) :: (2, [m % 256]) :: pairs j
theorem many_right (hd : List Nat) (hh : hd.length = 55) (m : Nat) : rightN 0 [] (many hd m) = decide (m = 0 ∨ 2 + 2 * m ≤ 512) := by
  have := pairs_right m 2 [m % 256] (by omega) (by omega)
  simp only [many, rightN]
  rw [if_pos (show fits 0 [] (1, hd) from ⟨by decide, rfl, hh⟩), if_pos (show fits (0 + 1) hd (2, [m % 256]) from ⟨by decide, rfl, rfl⟩)]
  exact this
theorem sum2 (m : Nat) : (List.replicate m 2).sum = 2 * m := by
  induction m with
  | zero => rfl
  | succ m ih => rw [List.replicate_succ, List.sum_cons, ih]; omega
theorem many_ev (m : Nat) (hm : m ≤ 257) (hm0 : 0 < m) : Ev (fun k => kotatsulaw05_BlockMany.l0 k (List.replicate m (bs43 [(3, z15), (4, [])])) (m : Int) (m : Int)) true := by
  obtain ⟨hd, e, hs2, hl2⟩ := head_cst (⟨#[]⟩ : ByteArray) 0 (by decide)
  have hsum : ((List.replicate m (bs43 [(3, z15), (4, [])])).map List.length).sum = 2 * m := by
    rw [List.map_replicate, show (bs43 [(3, z15), (4, [])]).length = 2 from rfl]; exact sum2 m
  have hdk := disk_f (⟨#[]⟩ : ByteArray) 0 (List.replicate m (bs43 [(3, z15), (4, [])])) (by rw [hsum]; omega) (by rw [List.length_replicate]; omega)
  rw [flat_pairs, List.length_replicate] at hdk
  have eb : ([⟨1, block_Disk.head (⟨#[]⟩ : ByteArray) 0⟩, ⟨2, [(m : Int) % 256]⟩] ++ bs43 (pairs m) : List S43) = bs43 (many hd m) := by
    rw [show block_Disk.head (⟨#[]⟩ : ByteArray) 0 = cst hd from e]; simp [bs43, b43, cst, many]
  rw [eb] at hdk
  have hsm : small2 (many hd m) := by
    intro b hb
    rcases List.mem_cons.1 hb with rfl | hb
    · exact ⟨by show 1 < 256; decide, hs2⟩
    rcases List.mem_cons.1 hb with rfl | hb
    · exact ⟨by show 2 < 256; decide, fun x hx => by rw [List.mem_singleton.1 hx]; exact Nat.mod_lt _ (by decide)⟩
    · exact pairs_small m b hb
  have hlen : (many hd m).length = 2 + 2 * m := by simp only [many, List.length_cons, pairs_len]; omega
  have hsz : sizeN (many hd m) = 58 + 17 * m := by
    have : sizeN (many hd m) = (1 + hd.length) + ((1 + 1) + sizeN (pairs m)) := by simp [many, sizeN]
    rw [this, hl2, pairs_size]; omega
  have hrt := many_right hd hl2 m
  rw [show decide (m = 0 ∨ 2 + 2 * m ≤ 512) = decide ((many hd m).length ≤ 512) by rw [hlen]; by_cases c : 2 + 2 * m ≤ 512 <;> simp [c]; omega] at hrt
  have hwk : ((wantN (many hd m)).1 > 0) ↔ (many hd m).length < 512 := by
    unfold wantN
    by_cases c : (many hd m).length < 512
    · rw [if_pos ⟨by rw [hrt]; exact decide_eq_true (by omega), c⟩]
      have := kindN_pos (many hd m).length
      exact ⟨fun _ => c, fun _ => this⟩
    · rw [if_neg (fun h => c h.2)]
      exact ⟨fun h => absurd h (by decide), fun h => absurd h c⟩
  have h1 := want_ev (many hd m) hsm (by omega)
  have h2 := own_ev (many hd m) (by omega)
  have h3 := flat_ev (many hd m) (by omega) (by omega)
  have h4 := parse_ev (flatN (many hd m)) (small_flatN hsm) (by rw [flatN_len]; omega)
  have h5 := right_ev (many hd m) hsm (by omega)
  have hpl : (parseN ((flatN (many hd m)).length + 1) 0 [] (flatN (many hd m))).length = min (many hd m).length 512 := by
    by_cases c : (many hd m).length ≤ 512
    · have := parseN_right (many hd m) ((flatN (many hd m)).length + 1) 0 [] [] (by rw [hrt]; exact decide_eq_true c) (by rw [flatN_len]; omega)
      rw [List.append_nil, parseN_nil, List.append_nil] at this
      rw [this]; omega
    · -- the first 512
      have esplit : many hd m = many2 hd m 255 ++ pairs (m - 255) := by
        rw [hlen] at c
        unfold many many2
        rw [show m = 255 + (m - 255) by omega, pairs_add]
        simp
      have hl1 : (many2 hd m 255).length = 512 := by simp only [many2, List.length_cons, pairs_len]
      have hr1 : rightN 0 [] (many2 hd m 255) = true := by
        have := pairs_right 255 2 [m % 256] (by omega) (by omega)
        simp only [many2, rightN]
        rw [if_pos (show fits 0 [] (1, hd) from ⟨by decide, rfl, hl2⟩), if_pos (show fits (0 + 1) hd (2, [m % 256]) from ⟨by decide, rfl, rfl⟩)]
        exact this
      have := parseN_right (many2 hd m 255) ((flatN (many hd m)).length + 1) 0 [] (flatN (pairs (m - 255))) hr1 (by rw [flatN_len, hl1]; omega)
      rw [← flatN_append, ← esplit, parseN_full _ (0 + (many2 hd m 255).length) _ (flatN (pairs (m - 255))) (by rw [hl1]; decide), List.append_nil] at this
      rw [this, hl1]; omega
  generalize parseN ((flatN (many hd m)).length + 1) 0 [] (flatN (many hd m)) = x at *
  refine Ev.step (f := fun k => (block_Want.f k (bs43 (many hd m))).bind fun bt166 => ((kotatsulaw05_own.f k (bs43 (many hd m))).bind fun t168 => ((kotatsuref05_Flat.f k t168).bind fun t171 => ((block_Parse.f k t171).bind fun bt174 => ((block_Right.f k (bs43 (many hd m))).bind fun t178 => (if (t178 == (decide (((bs43 (many hd m)).length : Int) ≤ 512))) = true then (if ((decide (bt166.1 > 0)) == (decide (((bs43 (many hd m)).length : Int) < 512))) = true then (some ((bt174.1.length : Int) == (mn ((bs43 (many hd m)).length : Int) 512))) else (some false)) else (some false))))))) (fun k => ?_) ?_
  · simp only [kotatsulaw05_BlockMany.l0]
    rw [if_neg (by omega), hdk]
    rfl
  refine Ev.bind (f := fun k t => _) h1 ?_
  refine Ev.bind (f := fun k t => _) h2 ?_
  refine Ev.bind (f := fun k t => _) h3 ?_
  refine Ev.bind (f := fun k t => _) h4 ?_
  refine Ev.bind (f := fun k t => _) h5 ?_
  have e1 : (rightN 0 [] (many hd m) == (decide (((bs43 (many hd m)).length : Int) ≤ 512))) = true := by
    rw [hrt, bs43_len]
    by_cases c : (many hd m).length ≤ 512
    · rw [decide_eq_true c, decide_eq_true (by omega)]; rfl
    · rw [decide_eq_false c, decide_eq_false (by omega)]; rfl
  have e2 : ((decide ((((wantN (many hd m)).1 : Nat) : Int) > 0)) == (decide (((bs43 (many hd m)).length : Int) < 512))) = true := by
    rw [bs43_len]
    by_cases c : (many hd m).length < 512
    · rw [decide_eq_true (by have := hwk.2 c; omega), decide_eq_true (by omega)]; rfl
    · rw [decide_eq_false (fun h => c (hwk.1 (by omega))), decide_eq_false (by omega)]; rfl
  have e3 : (((bs43 x).length : Int) == (mn ((bs43 (many hd m)).length : Int) 512)) = true := by
    rw [beq_iff_eq, bs43_len, bs43_len, hpl]
    unfold mn
    split <;> omega
  refine Ev.congr (fun k => ?_) (Ev.now _)
  simp only [e1, e2, if_true]
  exact congrArg some e3
theorem many_l0 (m : Nat) (hm : m ≤ 257) (hm0 : 0 < m) (d : Nat) : ∀ i : Nat, i + d = m → Ev (fun k => kotatsulaw05_BlockMany.l0 k (List.replicate i (bs43 [(3, z15), (4, [])])) (m : Int) (i : Int)) true := by
  induction d with
  | zero =>
    intro i hi
    rw [show i = m by omega]
    exact many_ev m hm hm0
  | succ d ih =>
    intro i hi
    have h1 := ih (i + 1) (by omega)
    rw [show List.replicate (i + 1) (bs43 [(3, z15), (4, [])]) = List.replicate i (bs43 [(3, z15), (4, [])]) ++ [bs43 [(3, z15), (4, [])]] from List.replicate_succ'] at h1
    refine Ev.step (f := fun k => kotatsulaw05_BlockMany.l0 k (List.replicate i (bs43 [(3, z15), (4, [])]) ++ [bs43 [(3, z15), (4, [])]]) (m : Int) ((i + 1 : Nat) : Int)) (fun k => ?_) h1
    simp only [kotatsulaw05_BlockMany.l0]
    rw [if_pos (by omega), file_nil]
    simp only [Option.bind_some]
    rw [if_pos (by rw [List.length_replicate]; omega), w64 (by omega) (by omega)]
    rfl
theorem BlockMany : kotatsulaw05_BlockMany.Pure := by
  intro a0 hw
  simp [Lit.wf, IntKind.min, IntKind.max, IntKind.signed, IntKind.bits] at hw
  have hm : Int.tmod a0 8 = a0 % 8 := Int.tmod_eq_emod_of_nonneg hw.1
  obtain ⟨m, hmm, h0, h1⟩ : ∃ m : Nat, wrap64 (250 + (wrap64 (Int.tmod a0 8))) = (m : Int) ∧ 0 < m ∧ m ≤ 257 := by
    refine ⟨(250 + a0 % 8).toNat, ?_, by omega, by omega⟩
    rw [hm, w64 (n := a0 % 8) (by omega) (by omega), w64 (by omega) (by omega)]
    omega
  refine Ev.rounds (Ev.bind (f := fun k t => if t = true then _ else _) awake_ev ?_)
  simp only [if_true, hmm]
  have := many_l0 m h1 h0 m 0 (by omega)
  exact this

end Go.Proofs.Ytgpgoffnfdjhcaa.Pure
