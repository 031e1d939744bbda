/- BlockParses: of any bytes just the document's blocks are read, and they may be; none that isn't there whole: for every input. No condition. -/
import Derived.Test.YtgpgoffnfdjhcaaPBlockParsesx4
import Derived.Test.YtgpgoffnfdjhcaaU
namespace Go.Proofs.Ytgpgoffnfdjhcaa.Pure
open Go.RowKit Go.Proofs.Ytgpgoffnfdjhcaa.PBlockParses Go.Proofs.Ytgpgoffnfdjhcaa.U Go.Proofs.YtgpgoffnfdjhcaaW.PrintWords Go.Proofs.YtgpgoffnfdjhcaaW.PrintLast Go.Proofs.YtgpgoffnfdjhcaaW.PrintMore
set_option linter.unusedVariables false
set_option linter.unusedSimpArgs false

/-! ### blocks05 -/
/-! a block: its kind, its bytes -/
abbrev Blk := Nat × List Nat
def small2 (l : List Blk) : Prop := ∀ b ∈ l, b.1 < 256 ∧ small b.2
def b43 (b : Blk) : S43 := ⟨(b.1 : Int), cst b.2⟩
def b61 (b : Blk) : S61 := ⟨(b.1 : Int), cst b.2⟩
def bs43 (l : List Blk) : List S43 := l.map b43
def bs61 (l : List Blk) : List S61 := l.map b61
theorem bs43_len (l : List Blk) : (bs43 l).length = l.length := by simp [bs43]
theorem bs61_len (l : List Blk) : (bs61 l).length = l.length := by simp [bs61]
theorem rd43 (l : List Blk) (i : Nat) : rd_T43 (bs43 l) (i : Int) = b43 (l.getD i (0, [])) := by
  unfold rd_T43 bs43
  rw [List.getD_eq_getElem?_getD, List.getD_eq_getElem?_getD, Int.toNat_natCast, List.getElem?_map]
  cases l[i]? <;> rfl
theorem rd61 (l : List Blk) (i : Nat) : rd_T61 (bs61 l) (i : Int) = b61 (l.getD i (0, [])) := by
  unfold rd_T61 bs61
  rw [List.getD_eq_getElem?_getD, List.getD_eq_getElem?_getD, Int.toNat_natCast, List.getElem?_map]
  cases l[i]? <;> rfl
theorem dropB (l : List Blk) (i : Nat) (h : i < l.length) : l.drop i = l.getD i (0, []) :: l.drop (i + 1) := by
  rw [List.drop_eq_getElem_cons h, List.getD_eq_getElem?_getD, List.getElem?_eq_getElem h]; rfl
theorem takeB (l : List Blk) (i : Nat) (h : i < l.length) : l.take (i + 1) = l.take i ++ [l.getD i (0, [])] := by
  rw [List.take_succ_eq_append_getElem h, List.getD_eq_getElem?_getD, List.getElem?_eq_getElem h]; rfl
theorem getB_mem (l : List Blk) (i : Nat) (h : i < l.length) : l.getD i (0, []) ∈ l := by
  rw [List.getD_eq_getElem?_getD, List.getElem?_eq_getElem h]; exact List.getElem_mem h
def kindN (i : Nat) : Nat := if i < 2 then i + 1 else 3 + i % 2
def bytesN (i : Nat) (last : List Nat) : Nat := if i = 0 then 55 else if i = 1 then 1 else if i % 2 = 0 then 15 else last.getD 12 0 + 256 * last.getD 13 0
def ahead (i : Nat) (last : List Nat) : Prop := 2 ≤ i → i % 2 = 1 → last.length = 15
def fits (i : Nat) (last : List Nat) (b : Blk) : Prop := i < 512 ∧ b.1 = kindN i ∧ b.2.length = bytesN i last
instance (i : Nat) (last : List Nat) (b : Blk) : Decidable (fits i last b) := by unfold fits; exact inferInstance
def rightN : Nat → List Nat → List Blk → Bool
  | _, _, [] => true
  | i, last, b :: l => if fits i last b then rightN (i + 1) b.2 l else false
def sizeN (l : List Blk) : Nat := (l.map fun b => 1 + b.2.length).sum
def flatN (l : List Blk) : List Nat := l.flatMap fun b => b.1 :: b.2
def parseN : Nat → Nat → List Nat → List Nat → List Blk
  | 0, _, _, _ => []
  | _ + 1, _, _, [] => []
  | n + 1, i, last, k :: r => if i < 512 ∧ k = kindN i ∧ bytesN i last ≤ r.length then (k, r.take (bytesN i last)) :: parseN n (i + 1) (r.take (bytesN i last)) (r.drop (bytesN i last)) else []
theorem parseN_cons (n i : Nat) (last : List Nat) (k : Nat) (r : List Nat) : parseN (n + 1) i last (k :: r) = if i < 512 ∧ k = kindN i ∧ bytesN i last ≤ r.length then (k, r.take (bytesN i last)) :: parseN n (i + 1) (r.take (bytesN i last)) (r.drop (bytesN i last)) else [] := rfl
theorem wr3 (a n : Nat) (h : a < 1000000000000) (h2 : n < 1000000000) : wrap64 ((a : Int) + 1) = ((a + 1 : Nat) : Int) ∧ wrap64 (((a + 1 : Nat) : Int) + (n : Int)) = ((a + 1 + n : Nat) : Int) ∧ wrap64 ((a : Int) + wrap64 (1 + (n : Int))) = ((a + 1 + n : Nat) : Int) := by
  refine ⟨?_, ?_, ?_⟩
  · rw [w64 (by omega) (by omega)]; rfl
  · rw [w64 (by omega) (by omega)]; omega
  · rw [w64 (n := 1 + (n : Int)) (by omega) (by omega), w64 (by omega) (by omega)]; omega
theorem kindN_lt (i : Nat) : kindN i < 5 := by unfold kindN; split <;> omega
theorem kindN_pos (i : Nat) : 0 < kindN i := by unfold kindN; split <;> omega
theorem bytesN_lt (i : Nat) {last : List Nat} (hs : small last) : bytesN i last < 65536 := by
  have h0 := getD_small hs 12
  have h1 := getD_small hs 13
  unfold bytesN
  split
  · decide
  split
  · decide
  split
  · decide
  · omega
theorem ahead_next {i : Nat} {last : List Nat} {b : Blk} (h : fits i last b) : ahead (i + 1) b.2 := by
  intro h2 h1
  have h3 := h.2.2
  unfold bytesN at h3
  rw [if_neg (by omega), if_neg (by omega), if_pos (by omega)] at h3
  exact h3
theorem ahead_take {i : Nat} {last r : List Nat} (h : bytesN i last ≤ r.length) : ahead (i + 1) (r.take (bytesN i last)) := by
  intro h2 h1
  rw [List.length_take, Nat.min_eq_left h]
  unfold bytesN
  rw [if_neg (by omega), if_neg (by omega), if_pos (by omega)]
theorem sizeN_append (a b : List Blk) : sizeN (a ++ b) = sizeN a + sizeN b := by simp [sizeN]
theorem sizeN_take (l : List Blk) (i : Nat) (h : i < l.length) : sizeN (l.take (i + 1)) = sizeN (l.take i) + (1 + (l.getD i (0, [])).2.length) := by
  rw [takeB l i h, sizeN_append]; simp [sizeN]
theorem sizeN_le (l : List Blk) (i : Nat) : sizeN (l.take i) ≤ sizeN l := by
  have h := sizeN_append (l.take i) (l.drop i)
  rw [List.take_append_drop] at h
  omega
theorem flatN_len (l : List Blk) : (flatN l).length = sizeN l := by
  unfold flatN sizeN
  rw [List.length_flatMap]
  congr 1
  apply List.map_congr_left
  intro b _
  simp; omega
theorem flatN_append (a b : List Blk) : flatN (a ++ b) = flatN a ++ flatN b := by simp [flatN]
theorem small_flatN {l : List Blk} (h : small2 l) : small (flatN l) := by
  intro x hx
  obtain ⟨b, hb, h2⟩ := List.mem_flatMap.1 hx
  rcases List.mem_cons.1 h2 with h3 | h3
  · rw [h3]; exact (h b hb).1
  · exact (h b hb).2 x h3
/-- what is read may be -/
theorem rightN_parseN (n : Nat) : ∀ (i : Nat) (last p : List Nat), rightN i last (parseN n i last p) = true := by
  induction n with
  | zero => intro i last p; rfl
  | succ n ih =>
    intro i last p
    cases p with
    | nil => rfl
    | cons k r =>
      unfold parseN
      split
      · rename_i h
        unfold rightN
        rw [if_pos ⟨h.1, h.2.1, by rw [List.length_take, Nat.min_eq_left h.2.2]⟩]
        exact ih _ _ _
      · rfl
theorem small2_parseN (n : Nat) : ∀ (i : Nat) (last p : List Nat), small p → small2 (parseN n i last p) := by
  induction n with
  | zero => intro i last p _ b hb; cases hb
  | succ n ih =>
    intro i last p hp
    cases p with
    | nil => intro b hb; cases hb
    | cons k r =>
      unfold parseN
      split
      · rename_i h
        have hr : small r := fun x hx => hp x (List.mem_cons_of_mem _ hx)
        intro b hb
        rcases List.mem_cons.1 hb with rfl | hb
        · exact ⟨hp _ List.mem_cons_self, small_take hr _⟩
        · exact ih _ _ _ (small_drop hr _) b hb
      · intro b hb; cases hb
theorem parseN_len (n : Nat) : ∀ (i : Nat) (last p : List Nat), (parseN n i last p).length ≤ n ∧ sizeN (parseN n i last p) ≤ p.length := by
  induction n with
  | zero => intro i last p; exact ⟨Nat.le_refl _, Nat.zero_le _⟩
  | succ n ih =>
    intro i last p
    cases p with
    | nil => exact ⟨Nat.zero_le _, Nat.zero_le _⟩
    | cons k r =>
      unfold parseN
      split
      · rename_i h
        have := ih (i + 1) (r.take (bytesN i last)) (r.drop (bytesN i last))
        refine ⟨by simp only [List.length_cons]; omega, ?_⟩
        have e : sizeN ((k, r.take (bytesN i last)) :: parseN n (i + 1) (r.take (bytesN i last)) (r.drop (bytesN i last))) = (1 + (r.take (bytesN i last)).length) + sizeN (parseN n (i + 1) (r.take (bytesN i last)) (r.drop (bytesN i last))) := by simp [sizeN]
        rw [e, List.length_take]
        have h2 := this.2
        rw [List.length_drop] at h2
        simp only [List.length_cons]
        omega
      · exact ⟨Nat.zero_le _, Nat.zero_le _⟩
def lastN (out : List Blk) : List Nat := if out.length = 0 then [] else (out.getD (out.length - 1) (0, [])).2
theorem lastN_snoc (out : List Blk) (b : Blk) : lastN (out ++ [b]) = b.2 := by
  unfold lastN
  rw [if_neg (by simp)]
  simp [List.getD_eq_getElem?_getD]
def lastL : List Nat → List Blk → List Nat
  | last, [] => last
  | _, b :: l => lastL b.2 l
theorem lastL_eq (l : List Blk) : ∀ last, lastL last l = if l.length = 0 then last else (l.getD (l.length - 1) (0, [])).2 := by
  induction l with
  | nil => intro last; rfl
  | cons b l ih =>
    intro last
    rw [lastL, ih b.2, if_neg (show ¬ (b :: l).length = 0 by simp)]
    by_cases c : l.length = 0
    · have : l = [] := List.length_eq_zero_iff.1 c
      subst this; rfl
    · rw [if_neg c]
      obtain ⟨n, hn⟩ : ∃ n, l.length = n + 1 := ⟨l.length - 1, by omega⟩
      simp [hn, List.getD_eq_getElem?_getD]
theorem lastN_eq (l : List Blk) : lastN l = lastL [] l := by rw [lastL_eq]; rfl
theorem rightN_ahead (l : List Blk) : ∀ (i : Nat) (last : List Nat), rightN i last l = true → ahead i last → ahead (i + l.length) (lastL last l) := by
  induction l with
  | nil => intro i last _ h; exact h
  | cons b l ih =>
    intro i last h ha
    unfold rightN at h
    by_cases c : fits i last b
    · rw [if_pos c] at h
      have := ih (i + 1) b.2 h (ahead_next c)
      rw [show i + (b :: l).length = i + 1 + l.length by simp; omega]
      exact this
    · rw [if_neg c] at h; cases h
theorem rightN_le (l : List Blk) : ∀ (i : Nat) (last : List Nat), rightN i last l = true → i ≤ 512 → i + l.length ≤ 512 := by
  induction l with
  | nil => intro i last _ h; exact h
  | cons b l ih =>
    intro i last h hi
    unfold rightN at h
    by_cases c : fits i last b
    · rw [if_pos c] at h
      have := ih (i + 1) b.2 h c.1
      simp only [List.length_cons]; omega
    · rw [if_neg c] at h; cases h
/-- blocks that may be are read again, whatever stands behind them -/
theorem parseN_right (l : List Blk) : ∀ (n i : Nat) (last more : List Nat), rightN i last l = true → l.length ≤ n → parseN n i last (flatN l ++ more) = l ++ parseN (n - l.length) (i + l.length) (lastL last l) more := by
  induction l with
  | nil => intro n i last more _ _; rfl
  | cons b l ih =>
    intro n i last more h hn
    unfold rightN at h
    by_cases c : fits i last b
    · rw [if_pos c] at h
      obtain ⟨n, rfl⟩ : ∃ m, n = m + 1 := ⟨n - 1, by simp only [List.length_cons] at hn; omega⟩
      have e : flatN (b :: l) ++ more = b.1 :: (b.2 ++ (flatN l ++ more)) := by simp [flatN]
      have hl := c.2.2
      rw [e, parseN_cons, if_pos ⟨c.1, c.2.1, by rw [List.length_append]; omega⟩, ← hl, List.take_left', List.drop_left', ih n (i + 1) b.2 more h (by simp only [List.length_cons] at hn; omega)]
      · simp only [List.length_cons, List.cons_append, lastL]
        rw [show n + 1 - (l.length + 1) = n - l.length by omega, show i + (l.length + 1) = i + 1 + l.length by omega]
      · rfl
      · rfl
    · rw [if_neg c] at h; cases h
theorem parseN_full (n i : Nat) (last p : List Nat) (h : 512 ≤ i) : parseN n i last p = [] := by
  cases n with
  | zero => rfl
  | succ n =>
    cases p with
    | nil => rfl
    | cons k r => rw [parseN_cons, if_neg (by omega)]
theorem parseN_nil (n i : Nat) (last : List Nat) : parseN n i last [] = [] := by cases n <;> rfl
theorem small2_getB {l : List Blk} (h : small2 l) : small (lastN l) := by
  unfold lastN
  split
  · intro x hx; cases hx
  · exact (h _ (getB_mem l _ (by omega))).2

/-! ### block_Disk -/
theorem disk_f (s : ByteArray) (side : Int) (ll : List (List S43)) (h : (ll.map List.length).sum ≤ 1000000000) (h2 : ll.length ≤ 1000000000) : block_Disk.f s side ll = some ([⟨1, block_Disk.head s side⟩, ⟨2, [(ll.length : Int) % 256]⟩] ++ ll.flatten) := by
  unfold block_Disk.f
  rw [if_pos ⟨h, h2⟩]
/-- the first block's bytes, as numbers -/
theorem head_cst (s : ByteArray) (side : Nat) (hs : side < 256) : ∃ ns, block_Disk.head s (side : Int) = cst ns ∧ small ns ∧ ns.length = 55 := by
  have hl := block_Disk.head_len s (side : Int)
  have hb : ∀ x ∈ block_Disk.head s (side : Int), (Lit.int .u8 x).wf = true := by
    have hw : ∀ x : Int, 0 ≤ x → x < 256 → (Lit.int .u8 x).wf = true := by
      intro x h0 h1
      simp [Lit.wf, IntKind.min, IntKind.max, IntKind.signed, IntKind.bits]
      omega
    intro x hx
    unfold block_Disk.head at hx
    rcases List.mem_or_eq_of_mem_set hx with h | h
    · unfold H.spl at h
      rcases List.mem_append.1 h with h | h
      · rw [List.eq_of_mem_replicate (List.mem_of_mem_take h)]; exact hw 0 (by omega) (by omega)
      · rcases List.mem_append.1 h with h | h
        · obtain ⟨b, _, rfl⟩ := List.mem_map.1 (List.mem_of_mem_take h)
          have := b.toNat_lt
          exact hw _ (by omega) (by omega)
        · rw [List.eq_of_mem_replicate (List.mem_of_mem_drop h)]; exact hw 0 (by omega) (by omega)
    · rw [h]; exact hw _ (by omega) (by omega)
  obtain ⟨ns, e, hsm⟩ := cst_of _ hb
  exact ⟨ns, e, hsm, by rw [← cst_length, ← e, hl]⟩

/-! ### block_expects -/
theorem expects_f (i : Nat) (last : List Nat) (hs : small last) (ha : ahead i last) : block_expects.f (i : Int) (cst last) = some (if i < 512 then (((kindN i : Nat) : Int), ((bytesN i last : Nat) : Int)) else (0, 0)) := by
  have h0 := getD_small hs 12
  have h1 := getD_small hs 13
  have hm : Int.tmod (i : Int) 2 = ((i % 2 : Nat) : Int) := by rw [Int.tmod_eq_emod_of_nonneg (by omega)]; omega
  unfold block_expects.f kindN bytesN
  by_cases c : i < 512
  · rw [if_neg (by omega), if_pos c]
    by_cases c0 : i = 0
    · rw [if_pos (by omega), if_pos (by omega), if_pos c0, c0]; rfl
    by_cases c1 : i = 1
    · rw [if_neg (by omega), if_pos (by omega), if_pos (by omega), if_neg c0, if_pos c1, c1]; rfl
    rw [hm, if_neg (show ¬ (i : Int) = 0 by omega), if_neg (show ¬ (i : Int) = 1 by omega), if_neg (show ¬ i < 2 by omega), if_neg c0, if_neg c1]
    by_cases c2 : i % 2 = 0
    · rw [if_pos (by omega), if_pos c2, c2]; rfl
    · have hl := ha (by omega) (by omega)
      rw [if_neg (show ¬ ((i % 2 : Nat) : Int) = 0 by omega), if_neg c2, if_pos (by rw [cst_length]; omega), if_pos (by rw [cst_length]; omega), show i % 2 = 1 by omega]
      have e12 := rd_cst last 12
      have e13 := rd_cst last 13
      rw [show ((12 : Nat) : Int) = 12 from rfl] at e12
      rw [show ((13 : Nat) : Int) = 13 from rfl] at e13
      rw [e12, e13, w64 (n := ((last.getD 12 0 : Nat) : Int)) (by omega) (by omega), w64 (n := ((last.getD 13 0 : Nat) : Int)) (by omega) (by omega), w64 (by omega) (by omega)]
      have := bits_join_low .i64 63 (by decide) wraps_i64 8 ((last.getD 12 0 : Nat) : Int) (((last.getD 13 0 : Nat) : Int) * 256) (by omega) (by omega) (by omega) (by omega) (by omega) (by omega)
      rw [this]
      congr 2
      omega
  · rw [if_pos (by omega), if_neg c]

/-! ### block_Right -/
theorem right_l0 (l : List Blk) (hs : small2 l) (hl : l.length < 1000000000000) (d : Nat) : ∀ (i : Nat) (last : List Nat), i + d = l.length → small last → ahead i last →
    Ev (fun k => block_Right.l0 k (cst last) (bs43 l) (l.length : Int) (i : Int)) (rightN i last (l.drop i)) := by
  induction d with
  | zero =>
    intro i last hi _ _
    rw [List.drop_eq_nil_of_le (by omega)]
    refine Ev.step (f := fun _ => some true) (fun k => ?_) (Ev.now _)
    simp only [block_Right.l0]
    rw [if_neg (by omega)]
  | succ d ih =>
    intro i last hi hsl ha
    have hm := hs _ (getB_mem l i (by omega))
    rw [dropB l i (by omega)]
    generalize hb : l.getD i (0, []) = b at *
    have hk := kindN_lt i
    have hkp := kindN_pos i
    have hbl := bytesN_lt i hsl
    unfold rightN
    by_cases c : fits i last b
    · rw [if_pos c]
      refine Ev.step (f := fun k => block_Right.l0 k (cst b.2) (bs43 l) (l.length : Int) ((i + 1 : Nat) : Int)) (fun k => ?_) (ih (i + 1) b.2 (by omega) hm.2 (ahead_next c))
      simp only [block_Right.l0]
      rw [if_pos (by omega), if_pos (by omega), if_pos (by rw [bs43_len]; omega), expects_f i last hsl ha, rd43, hb]
      simp only [Option.bind_some, if_pos c.1, b43, cst_length]
      rw [if_pos (by rw [c.2.1]), if_pos (by rw [c.2.2]), if_neg (by omega), w64 (by omega) (by omega)]
      rfl
    · rw [if_neg c]
      refine Ev.step (f := fun _ => some false) (fun k => ?_) (Ev.now _)
      simp only [block_Right.l0]
      rw [if_pos (by omega), if_pos (by omega), if_pos (by rw [bs43_len]; omega), expects_f i last hsl ha, rd43, hb]
      simp only [Option.bind_some, b43, cst_length]
      unfold fits at c
      by_cases c0 : i < 512
      · simp only [if_pos c0]
        by_cases c1 : b.1 = kindN i
        · rw [if_pos (by rw [c1]), if_neg (fun h => c ⟨c0, c1, by omega⟩)]
        · rw [if_neg (by omega)]
      · simp only [if_neg c0]
        split
        · split
          · rfl
          · rfl
        · rfl
theorem right_ev (l : List Blk) (hs : small2 l) (hl : l.length < 1000000000000) : Ev (fun k => block_Right.f k (bs43 l)) (rightN 0 [] l) := by
  have := right_l0 l hs hl l.length 0 [] (by omega) (fun _ h => by cases h) (fun h => by omega)
  rw [List.drop_zero] at this
  unfold block_Right.f
  rw [bs43_len]
  exact this

/-! ### block_Size -/
theorem size_l0 (l : List Blk) (hl : sizeN l < 1000000000000) (hll : l.length < 1000000000000) (d : Nat) : ∀ i : Nat, i + d = l.length →
    Ev (fun k => block_Size.l0 k ((sizeN (l.take i) : Nat) : Int) (bs43 l) (l.length : Int) (i : Int)) ((sizeN l : Nat) : Int) := by
  induction d with
  | zero =>
    intro i hi
    rw [List.take_of_length_le (by omega)]
    refine Ev.step (f := fun _ => some ((sizeN l : Nat) : Int)) (fun k => ?_) (Ev.now _)
    simp only [block_Size.l0]
    rw [if_neg (by omega)]
  | succ d ih =>
    intro i hi
    have h1 := ih (i + 1) (by omega)
    have hle := sizeN_le l (i + 1)
    have e := sizeN_take l i (by omega)
    refine Ev.step (f := fun k => block_Size.l0 k ((sizeN (l.take (i + 1)) : Nat) : Int) (bs43 l) (l.length : Int) ((i + 1 : Nat) : Int)) (fun k => ?_) h1
    simp only [block_Size.l0]
    rw [if_pos (by omega), if_pos (by omega), if_pos (by rw [bs43_len]; omega), rd43]
    simp only [b43, cst_length]
    rw [w64 (n := 1 + _) (by omega) (by omega), w64 (n := ((sizeN (l.take i) : Nat) : Int) + _) (by omega) (by omega), w64 (by omega) (by omega)]
    congr 1
    omega
theorem size_ev (l : List Blk) (hl : sizeN l < 1000000000000) (hll : l.length < 1000000000000) : Ev (fun k => block_Size.f k (bs43 l)) ((sizeN l : Nat) : Int) := by
  have := size_l0 l hl hll l.length 0 (by omega)
  unfold block_Size.f
  rw [bs43_len]
  exact this

/-! ### kotatsulaw05_awake -/
theorem awake_ev : Ev (fun k => kotatsulaw05_awake.f k) true := by
  obtain ⟨ns, e, hs, hl⟩ := head_cst (⟨#[42]⟩ : ByteArray) 0 (by decide)
  have hd := disk_f (⟨#[42]⟩ : ByteArray) 0 [] (by simp) (by simp)
  have eb : ([⟨1, block_Disk.head (⟨#[42]⟩ : ByteArray) 0⟩, ⟨2, [((([] : List (List S43)).length : Nat) : Int) % 256]⟩] ++ ([] : List (List S43)).flatten : List S43) = bs43 [(1, ns), (2, [0])] := by
    rw [show block_Disk.head (⟨#[42]⟩ : ByteArray) 0 = cst ns from e]; simp [bs43, b43, cst]
  rw [eb] at hd
  have hs2 : small2 [(1, ns), (2, [0])] := by
    intro b hb
    simp only [List.mem_cons, List.not_mem_nil, or_false] at hb
    rcases hb with rfl | rfl
    · exact ⟨by show 1 < 256; decide, hs⟩
    · exact ⟨by decide, fun x hx => by simp at hx; omega⟩
  have hsz := size_ev [(1, ns), (2, [0])] (by simp [sizeN, hl]) (by simp)
  rw [show sizeN [(1, ns), (2, [0])] = 58 by simp [sizeN, hl]] at hsz
  have hr := right_ev [(1, ns), (2, [0])] hs2 (by simp)
  rw [show rightN 0 [] [(1, ns), (2, [0])] = true by simp [rightN, fits, kindN, bytesN, hl]] at hr
  have hr2 := right_ev [(2, [0])] (fun b hb => hs2 b (List.mem_cons_of_mem _ hb)) (by simp)
  rw [show rightN 0 [] [(2, [0])] = false by simp [rightN, fits, kindN]] at hr2
  refine Ev.congr (f := fun k => (block_Size.f k (bs43 [(1, ns), (2, [0])])).bind fun t => if t = 58 then (block_Right.f k (bs43 [(1, ns), (2, [0])])).bind fun t => if t = true then if (1 : Int) ≤ ((bs43 [(1, ns), (2, [0])]).length : Int) then (block_Right.f k ((bs43 [(1, ns), (2, [0])]).drop 1)).bind fun t => some (!t) else none else some false else some false) (fun k => ?_) ?_
  · unfold kotatsulaw05_awake.f
    rw [hd]
    rfl
  · refine Ev.bind (f := fun k t => if t = 58 then _ else _) hsz ?_
    simp only [show (((58 : Nat) : Int) = 58) from rfl, if_true]
    refine Ev.bind (f := fun k t => if t = true then _ else _) hr ?_
    simp only [if_true, bs43_len, List.length_cons, List.length_nil, show ((1 : Int) ≤ ((0 + 1 + 1 : Nat) : Int)) from by decide]
    rw [show (bs43 [(1, ns), (2, [0])]).drop 1 = bs43 [(2, [0])] from rfl]
    exact Ev.bind (f := fun k t => some (!t)) hr2 (Ev.now _)

/-! ### kotatsuref01_Cut -/
theorem cut_l0 (l : List Int) (m : Nat) (hm : m < 100000) (hl : l.length ≤ 140737488351232) (d : Nat) : ∀ i : Nat, i + d = l.length → Ev (fun k => kotatsuref01_Cut.l0 k (m : Int) ((l.take i).take m) l (l.length : Int) (i : Int)) (l.take m) := by
  induction d with
  | zero =>
    intro i hi
    refine Ev.step (f := fun _ => some (l.take m)) (fun k => ?_) (Ev.now _)
    simp only [kotatsuref01_Cut.l0]
    rw [if_neg (by omega), List.take_of_length_le (show l.length ≤ i by omega)]
  | succ d ih =>
    intro i hi
    have hn := ih (i + 1) (by omega)
    have hlen : ((l.take i).take m).length ≤ i := by simp only [List.length_take]; omega
    have hget : l.take (i + 1) = l.take i ++ [rd l (i : Int)] := by
      unfold rd
      rw [List.take_succ_eq_append_getElem (by omega), List.getD_eq_getElem?_getD, Int.toNat_natCast, List.getElem?_eq_getElem (by omega)]; rfl
    by_cases c : i < m
    · refine Ev.step (f := fun k => kotatsuref01_Cut.l0 k (m : Int) ((l.take (i + 1)).take m) l (l.length : Int) ((i + 1 : Nat) : Int)) (fun k => ?_) hn
      simp only [kotatsuref01_Cut.l0]
      rw [if_pos (by omega), if_pos (by omega), if_pos (by omega), if_pos (by omega), if_pos (by omega), w64 (by omega) (by omega)]
      have e : (l.take (i + 1)).take m = (l.take i).take m ++ [rd l (i : Int)] := by
        rw [hget, List.take_append, List.take_of_length_le (l := [rd l (i : Int)]) (by simp only [List.length_take, List.length_cons, List.length_nil]; omega)]
      rw [e]; rfl
    · refine Ev.step (f := fun k => kotatsuref01_Cut.l0 k (m : Int) ((l.take (i + 1)).take m) l (l.length : Int) ((i + 1 : Nat) : Int)) (fun k => ?_) hn
      simp only [kotatsuref01_Cut.l0]
      rw [if_pos (by omega), if_pos (by omega), if_pos (by omega), if_neg (by omega), w64 (by omega) (by omega)]
      have e : (l.take (i + 1)).take m = (l.take i).take m := by
        rw [List.take_take, List.take_take]; congr 1; omega
      rw [e]; rfl
theorem cut_ev (l : List Int) (m : Nat) (hm : m < 100000) (hl : l.length ≤ 140737488351232) : Ev (fun k => kotatsuref01_Cut.f k l (m : Int)) (l.take m) := by
  have := cut_l0 l m hm hl l.length 0 (by omega)
  simpa [kotatsuref01_Cut.f] using this

/-! ### kotatsuref01_Join -/
theorem join_l0 (L : List (List Int)) (hl : L.length < 1000000000) (hsum : L.flatten.length < 140737488355328) (d : Nat) : ∀ i : Nat, i + d = L.length →
    Ev (fun k => kotatsuref01_Join.l0 k (L.take i).flatten L (L.length : Int) (i : Int)) L.flatten := by
  induction d with
  | zero =>
    intro i hi
    rw [List.take_of_length_le (by omega)]
    refine Ev.step (f := fun _ => some L.flatten) (fun k => ?_) (Ev.now _)
    simp only [kotatsuref01_Join.l0]
    rw [if_neg (by omega)]
  | succ d ih =>
    intro i hi
    have e : (L.take (i + 1)).flatten = (L.take i).flatten ++ rd_L1 L (i : Int) := by
      rw [List.take_succ_eq_append_getElem (by omega), List.flatten_append]
      unfold rd_L1
      rw [List.getD_eq_getElem?_getD, Int.toNat_natCast, List.getElem?_eq_getElem (by omega)]
      simp
    have hle : ((L.take (i + 1)).flatten).length ≤ L.flatten.length := by
      have : L.flatten = (L.take (i + 1)).flatten ++ (L.drop (i + 1)).flatten := by rw [← List.flatten_append, List.take_append_drop]
      rw [this, List.length_append]; omega
    rw [e, List.length_append] at hle
    have h1 := ih (i + 1) (by omega)
    rw [e] at h1
    refine Ev.step (f := fun k => kotatsuref01_Join.l0 k ((L.take i).flatten ++ rd_L1 L (i : Int)) L (L.length : Int) ((i + 1 : Nat) : Int)) (fun k => ?_) h1
    simp only [kotatsuref01_Join.l0]
    rw [if_pos (by omega), if_pos (by omega), if_pos (by omega), if_pos (by omega), w64 (by omega) (by omega)]
    rfl
theorem join_ev (L : List (List Int)) (hl : L.length < 1000000000) (hsum : L.flatten.length < 140737488355328) : Ev (fun k => kotatsuref01_Join.f k L) L.flatten := by
  have := join_l0 L hl hsum L.length 0 (by omega)
  simpa [kotatsuref01_Join.f] using this

/-! ### kotatsuref05_Flat -/
theorem flat_l0 (l : List Blk) (hl : sizeN l < 1000000000000) (hll : l.length < 1000000000000) (d : Nat) : ∀ i : Nat, i + d = l.length →
    Ev (fun k => kotatsuref05_Flat.l0 k (cst (flatN (l.take i))) (bs61 l) (l.length : Int) (i : Int)) (cst (flatN l)) := by
  induction d with
  | zero =>
    intro i hi
    rw [List.take_of_length_le (by omega)]
    refine Ev.step (f := fun _ => some (cst (flatN l))) (fun k => ?_) (Ev.now _)
    simp only [kotatsuref05_Flat.l0]
    rw [if_neg (by omega)]
  | succ d ih =>
    intro i hi
    have h1 := ih (i + 1) (by omega)
    have hle := sizeN_le l (i + 1)
    have e := takeB l i (by omega)
    have hs := sizeN_take l i (by omega)
    have hf := flatN_len (l.take i)
    have e2 : cst (flatN (l.take (i + 1))) = [cst (flatN (l.take i)), [((l.getD i (0, [])).1 : Int)], cst (l.getD i (0, [])).2].flatten := by
      rw [e, flatN_append]
      simp [flatN, cst]
    have hj := join_ev [cst (flatN (l.take i)), [((l.getD i (0, [])).1 : Int)], cst (l.getD i (0, [])).2] (by simp) (by rw [← e2, cst_length, flatN_len]; omega)
    rw [← e2] at hj
    refine Ev.step (f := fun k => (kotatsuref01_Join.f k [cst (flatN (l.take i)), [((l.getD i (0, [])).1 : Int)], cst (l.getD i (0, [])).2]).bind fun t => kotatsuref05_Flat.l0 k t (bs61 l) (l.length : Int) ((i + 1 : Nat) : Int)) (fun k => ?_) (Ev.bind (f := fun k t => kotatsuref05_Flat.l0 k t (bs61 l) (l.length : Int) ((i + 1 : Nat) : Int)) hj h1)
    simp only [kotatsuref05_Flat.l0]
    rw [if_pos (by omega), if_pos (by omega), if_pos (by rw [bs61_len]; omega), rd61, w64 (by omega) (by omega)]
    rfl
theorem flat_ev (l : List Blk) (hl : sizeN l < 1000000000000) (hll : l.length < 1000000000000) : Ev (fun k => kotatsuref05_Flat.f k (bs61 l)) (cst (flatN l)) := by
  have := flat_l0 l hl hll l.length 0 (by omega)
  unfold kotatsuref05_Flat.f
  rw [bs61_len]
  exact this

/-! ### own05 -/
theorem own_l0 (l : List Blk) (hll : l.length < 1000000000) (d : Nat) : ∀ i : Nat, i + d = l.length →
    Ev (fun k => kotatsulaw05_own.l0 k (bs61 (l.take i)) (bs43 l) (l.length : Int) (i : Int)) (bs61 l) := by
  induction d with
  | zero =>
    intro i hi
    rw [List.take_of_length_le (by omega)]
    refine Ev.step (f := fun _ => some (bs61 l)) (fun k => ?_) (Ev.now _)
    simp only [kotatsulaw05_own.l0]
    rw [if_neg (by omega)]
  | succ d ih =>
    intro i hi
    have h1 := ih (i + 1) (by omega)
    have e : bs61 (l.take (i + 1)) = bs61 (l.take i) ++ [b61 (l.getD i (0, []))] := by
      rw [takeB l i (by omega)]; simp [bs61]
    rw [e] at h1
    refine Ev.step (f := fun k => kotatsulaw05_own.l0 k (bs61 (l.take i) ++ [b61 (l.getD i (0, []))]) (bs43 l) (l.length : Int) ((i + 1 : Nat) : Int)) (fun k => ?_) h1
    simp only [kotatsulaw05_own.l0]
    rw [if_pos (by omega), if_pos (by omega), if_pos (by rw [bs43_len]; omega), if_pos (by rw [bs61_len, List.length_take]; omega), rd43, w64 (by omega) (by omega)]
    rfl
theorem own_ev (l : List Blk) (hll : l.length < 1000000000) : Ev (fun k => kotatsulaw05_own.f k (bs43 l)) (bs61 l) := by
  have := own_l0 l hll l.length 0 (by omega)
  unfold kotatsulaw05_own.f
  rw [bs43_len]
  exact this

/-! ### kotatsulaw05_own -/

/-! ### bytes_Clone -/
theorem clone_f (l : List Int) (h : l.length ≤ 140737488355328) : bytes_Clone.f l = some l := by
  unfold bytes_Clone.f
  rw [if_pos h]

/-! ### block_Parse -/
theorem parse_eq (p : List Nat) (out : List Blk) (last : List Nat) (at_ nb kd : Nat) (hex : block_expects.f (out.length : Int) (cst last) = some ((kd : Int), (nb : Int))) (hkd : 0 < kd) (hnb : nb < 65536) (hp : p.length < 1000000000000) (hat : at_ ≤ p.length) (hout : out.length < 512) (k : Nat) :
    block_Parse.l0 (k + 1) (cst p) (bs43 out) (cst last) (at_ : Int) = if p.length - at_ < 1 + nb then some (bs43 out, (at_ : Int)) else if p.getD at_ 0 = kd then block_Parse.l0 k (cst p) (bs43 (out ++ [(p.getD at_ 0, (p.drop (at_ + 1)).take nb)])) (cst ((p.drop (at_ + 1)).take nb)) ((at_ + 1 + nb : Nat) : Int) else some (bs43 out, (at_ : Int)) := by
  simp only [block_Parse.l0]
  rw [bs43_len, hex]
  simp only [Option.bind_some, cst_length]
  have w0 : wrap64 ((p.length : Int) - (at_ : Int)) = ((p.length - at_ : Nat) : Int) := by rw [w64 (by omega) (by omega)]; omega
  have w9 : wrap64 (1 + (nb : Int)) = ((1 + nb : Nat) : Int) := by rw [w64 (by omega) (by omega)]; omega
  obtain ⟨w1, w2, w3⟩ := wr3 at_ nb (by omega) (by omega)
  rw [w9] at w3
  rw [if_neg (show ¬ (kd : Int) = 0 by omega), w0, w9, w1, w2, w3]
  clear w0 w9 w1 w2 w3 hex
  by_cases c1 : p.length - at_ < 1 + nb
  · rw [if_pos (by omega), if_pos c1]
  · rw [if_neg (by omega), if_neg c1, if_pos (by omega), if_pos (by omega), rd_cst]
    by_cases c2 : p.getD at_ 0 = kd
    · subst c2
      have hcl : ((p.drop (at_ + 1)).take nb).length = nb := by rw [List.length_take, List.length_drop]; omega
      have ec : ((cst p).take (at_ + 1 + nb)).drop (at_ + 1) = cst ((p.drop (at_ + 1)).take nb) := by
        rw [cst_take, cst_drop, List.drop_take]
        congr 2
        omega
      rw [if_pos rfl, if_pos rfl, if_pos (by omega), if_pos (by omega), if_pos (by omega), Int.toNat_natCast, Int.toNat_natCast, ec, clone_f _ (by rw [cst_length, hcl]; omega)]
      simp only [Option.bind_some]
      rw [if_pos (by omega), show bs43 (out ++ [(p.getD at_ 0, (p.drop (at_ + 1)).take nb)]) = bs43 out ++ [⟨((p.getD at_ 0 : Nat) : Int), cst ((p.drop (at_ + 1)).take nb)⟩] by simp [bs43, b43]]
    · rw [if_neg (by omega), if_neg c2]
theorem parse_l0 (p : List Nat) (hs : small p) (hp : p.length < 1000000000000) (n : Nat) : ∀ (at_ : Nat) (out : List Blk) (last : List Nat), at_ ≤ p.length → p.length - at_ < n → small last → ahead out.length last →
    Ev (fun k => block_Parse.l0 k (cst p) (bs43 out) (cst last) (at_ : Int)) (bs43 (out ++ parseN n out.length last (p.drop at_)), ((at_ + sizeN (parseN n out.length last (p.drop at_)) : Nat) : Int)) := by
  induction n with
  | zero => intro at_ out last _ h; omega
  | succ n ih =>
    intro at_ out last hat hn hsl ha
    have hkp := kindN_pos out.length
    have hbl := bytesN_lt out.length hsl
    have hex := expects_f out.length last hsl ha
    have hstop : parseN (n + 1) out.length last (p.drop at_) = [] → (∀ k, block_Parse.l0 (k + 1) (cst p) (bs43 out) (cst last) (at_ : Int) = some (bs43 out, (at_ : Int))) →
        Ev (fun k => block_Parse.l0 k (cst p) (bs43 out) (cst last) (at_ : Int)) (bs43 (out ++ parseN (n + 1) out.length last (p.drop at_)), ((at_ + sizeN (parseN (n + 1) out.length last (p.drop at_)) : Nat) : Int)) := by
      intro e h
      rw [e, List.append_nil]
      exact Ev.step (f := fun _ => some (bs43 out, (at_ : Int))) h (Ev.now _)
    by_cases c0 : out.length < 512
    · rw [if_pos c0] at hex
      have heq := parse_eq p out last at_ (bytesN out.length last) (kindN out.length) hex hkp hbl hp hat c0
      by_cases c1 : p.length - at_ < 1 + bytesN out.length last
      · refine hstop ?_ (fun k => by rw [heq k, if_pos c1])
        cases hd : p.drop at_ with
        | nil => rfl
        | cons k r =>
          have : (p.drop at_).length = r.length + 1 := by rw [hd]; rfl
          rw [List.length_drop] at this
          rw [parseN_cons, if_neg (by omega)]
      · have hd : p.drop at_ = p.getD at_ 0 :: p.drop (at_ + 1) := drop_getD p at_ (by omega)
        by_cases c2 : p.getD at_ 0 = kindN out.length
        · have hlen : bytesN out.length last ≤ (p.drop (at_ + 1)).length := by rw [List.length_drop]; omega
          have hcl : ((p.drop (at_ + 1)).take (bytesN out.length last)).length = bytesN out.length last := by rw [List.length_take, Nat.min_eq_left hlen]
          have h1 := ih (at_ + 1 + bytesN out.length last) (out ++ [(p.getD at_ 0, (p.drop (at_ + 1)).take (bytesN out.length last))]) ((p.drop (at_ + 1)).take (bytesN out.length last)) (by omega) (by omega) (small_take (small_drop hs _) _) (by rw [List.length_append]; exact ahead_take hlen)
          rw [List.length_append, List.length_singleton, List.append_assoc, List.singleton_append] at h1
          have e : parseN (n + 1) out.length last (p.drop at_) = (p.getD at_ 0, (p.drop (at_ + 1)).take (bytesN out.length last)) :: parseN n (out.length + 1) ((p.drop (at_ + 1)).take (bytesN out.length last)) (p.drop (at_ + 1 + bytesN out.length last)) := by
            rw [hd, parseN_cons, if_pos ⟨c0, c2, hlen⟩, List.drop_drop]
          have ez : (at_ + 1 + bytesN out.length last) + sizeN (parseN n (out.length + 1) ((p.drop (at_ + 1)).take (bytesN out.length last)) (p.drop (at_ + 1 + bytesN out.length last))) = at_ + sizeN (parseN (n + 1) out.length last (p.drop at_)) := by
            rw [e]
            simp only [sizeN, List.map_cons, List.sum_cons, hcl]
            omega
          rw [ez, ← e] at h1
          exact Ev.step (f := fun k => block_Parse.l0 k (cst p) (bs43 (out ++ [(p.getD at_ 0, (p.drop (at_ + 1)).take (bytesN out.length last))])) (cst ((p.drop (at_ + 1)).take (bytesN out.length last))) ((at_ + 1 + bytesN out.length last : Nat) : Int)) (fun k => by rw [heq k, if_neg c1, if_pos c2]) h1
        · refine hstop ?_ (fun k => by rw [heq k, if_neg c1, if_neg c2])
          rw [hd, parseN_cons, if_neg (fun h => c2 h.2.1)]
    · rw [if_neg c0] at hex
      refine hstop ?_ (fun k => ?_)
      · cases hd : p.drop at_ with
        | nil => rfl
        | cons k r => rw [parseN_cons, if_neg (fun h => c0 h.1)]
      · simp only [block_Parse.l0]
        rw [bs43_len, hex]
        rfl
theorem parse_ev (p : List Nat) (hs : small p) (hp : p.length < 1000000000000) : Ev (fun k => block_Parse.f k (cst p)) (bs43 (parseN (p.length + 1) 0 [] p), ((sizeN (parseN (p.length + 1) 0 [] p) : Nat) : Int)) := by
  have := parse_l0 p hs hp (p.length + 1) 0 [] [] (Nat.zero_le _) (by omega) (fun _ h => by cases h) (fun h => by simp at h)
  simp only [List.drop_zero, List.nil_append, Nat.zero_add, List.length_nil] at this
  exact this

/-! ### kotatsuref05_Kind -/
theorem kind_f (i : Nat) (hi : i < 1000000000000) : kotatsuref05_Kind.f (i : Int) = some ((kindN i : Nat) : Int) := by
  have hm : Int.tmod (i : Int) 2 = ((i % 2 : Nat) : Int) := by rw [Int.tmod_eq_emod_of_nonneg (by omega)]; omega
  unfold kotatsuref05_Kind.f kindN
  by_cases c : i < 2
  · rw [if_pos (by omega), if_pos c, w64 (by omega) (by omega)]; congr 1; omega
  · rw [if_neg (by omega), if_neg c, hm, w64 (by omega) (by omega)]; congr 1; omega

/-! ### kotatsuref05_Bytes -/
theorem bytes_f (i : Nat) (hi : i < 1000000000000) (last : List Nat) (hs : small last) (ha : ahead i last) : kotatsuref05_Bytes.f (i : Int) (cst last) = some ((bytesN i last : Nat) : Int) := by
  have h0 := getD_small hs 12
  have h1 := getD_small hs 13
  unfold kotatsuref05_Bytes.f
  rw [kind_f i hi]
  simp only [Option.bind_some]
  unfold kindN bytesN
  by_cases c0 : i = 0
  · subst c0; rfl
  by_cases c1 : i = 1
  · subst c1; rfl
  rw [if_neg (show ¬ i < 2 by omega), if_neg c0, if_neg c1]
  by_cases c2 : i % 2 = 0
  · rw [c2]; rfl
  · have hl := ha (by omega) (by omega)
    rw [show ((3 + i % 2 : Nat) : Int) = 4 by omega, if_neg c2, if_neg (show ¬ (4 : Int) = 1 by decide), if_neg (show ¬ (4 : Int) = 2 by decide), if_neg (show ¬ (4 : Int) = 3 by decide), if_pos (by rw [cst_length]; omega), if_pos (by rw [cst_length]; omega)]
    have e12 := rd_cst last 12
    have e13 := rd_cst last 13
    rw [show ((12 : Nat) : Int) = 12 from rfl] at e12
    rw [show ((13 : Nat) : Int) = 13 from rfl] at e13
    rw [e12, e13, w64 (n := ((last.getD 12 0 : Nat) : Int)) (by omega) (by omega), w64 (n := ((last.getD 13 0 : Nat) : Int)) (by omega) (by omega), w64 (n := 256 * _) (by omega) (by omega), w64 (by omega) (by omega)]
    rfl

/-! ### kotatsuref05_Parse -/
theorem rparse_tail (p : List Nat) (hp : p.length < 1000000000000) (at_ n : Nat) (out : List Blk) (ho : out.length < 512) (hat : at_ + 1 ≤ p.length) (r : List S61) (hn : n < 1000000000)
    (hr : n ≤ p.length - at_ - 1 → Ev (fun k => kotatsuref05_Parse.l0 k (cst p) (bs61 (out ++ [(p.getD at_ 0, (p.drop (at_ + 1)).take n)])) ((at_ + 1 + n : Nat) : Int)) r) (hno : ¬ n ≤ p.length - at_ - 1 → r = bs61 out) :
    Ev (fun k => (if ((n : Nat) : Int) > (wrap64 ((wrap64 (((cst p).length : Int) - (at_ : Int))) - 1)) then (some (bs61 out)) else (if 0 ≤ (wrap64 ((at_ : Int) + 1)) then (if (wrap64 ((at_ : Int) + 1)) ≤ (wrap64 ((wrap64 ((at_ : Int) + 1)) + (n : Int))) then (if (wrap64 ((wrap64 ((at_ : Int) + 1)) + (n : Int))) ≤ ((cst p).length : Int) then ((kotatsuref01_Join.f k (([(((cst p).take ((wrap64 ((wrap64 ((at_ : Int) + 1)) + (n : Int))) : Int).toNat).drop ((wrap64 ((at_ : Int) + 1)) : Int).toNat)] : List (List Int)))).bind fun t170 => (if (bs61 out).length < 4398046511104 then (kotatsuref05_Parse.l0 k (cst p) ((bs61 out) ++ [(⟨rd (cst p) (at_ : Int), t170⟩ : S61)]) (wrap64 ((at_ : Int) + (wrap64 (1 + (n : Int)))))) else (none))) else (none)) else (none)) else (none)))) r := by
  obtain ⟨w1, w2, w3⟩ := wr3 at_ n (by omega) hn
  have w4 : wrap64 (wrap64 (((cst p).length : Int) - (at_ : Int)) - 1) = ((p.length - at_ - 1 : Nat) : Int) := by rw [cst_length, w64 (n := _ - (at_ : Int)) (by omega) (by omega), w64 (by omega) (by omega)]; omega
  by_cases c : n ≤ p.length - at_ - 1
  · have ec : ((cst p).take (at_ + 1 + n)).drop (at_ + 1) = cst ((p.drop (at_ + 1)).take n) := by
      rw [cst_take, cst_drop, List.drop_take]
      congr 2
      omega
    have hj := join_ev [cst ((p.drop (at_ + 1)).take n)] (by simp) (by simp only [List.flatten_cons, List.flatten_nil, List.append_nil, cst_length, List.length_take, List.length_drop]; omega)
    rw [show [cst ((p.drop (at_ + 1)).take n)].flatten = cst ((p.drop (at_ + 1)).take n) by simp] at hj
    have e : bs61 (out ++ [(p.getD at_ 0, (p.drop (at_ + 1)).take n)]) = bs61 out ++ [(⟨rd (cst p) (at_ : Int), cst ((p.drop (at_ + 1)).take n)⟩ : S61)] := by
      rw [rd_cst]; simp [bs61, b61]
    have h1 := hr c
    rw [e] at h1
    refine Ev.congr (fun k => ?_) (Ev.bind (f := fun k t => kotatsuref05_Parse.l0 k (cst p) (bs61 out ++ [(⟨rd (cst p) (at_ : Int), t⟩ : S61)]) ((at_ + 1 + n : Nat) : Int)) hj h1)
    rw [w1, w2, w3, w4, if_neg (by omega), if_pos (by omega), if_pos (by omega), if_pos (by rw [cst_length]; omega), Int.toNat_natCast, Int.toNat_natCast, ec]
    refine congrArg (fun f => (kotatsuref01_Join.f k [cst ((p.drop (at_ + 1)).take n)]).bind f) (funext fun t => ?_)
    rw [if_pos (by rw [bs61_len]; omega)]
  · rw [hno c]
    refine Ev.congr (fun k => ?_) (Ev.now _)
    rw [w4, if_pos (by omega)]
set_option maxRecDepth 100000 in
set_option maxHeartbeats 1000000 in
theorem rparse_l0 (p : List Nat) (hs : small p) (hp : p.length < 1000000000000) (n : Nat) : ∀ (at_ : Nat) (out : List Blk), at_ ≤ p.length → p.length - at_ < n → small2 out → ahead out.length (lastN out) →
    Ev (fun k => kotatsuref05_Parse.l0 k (cst p) (bs61 out) (at_ : Int)) (bs61 (out ++ parseN n out.length (lastN out) (p.drop at_))) := by
  induction n with
  | zero => intro at_ out _ h; omega
  | succ n ih =>
    intro at_ out hat hn hso ha
    have hsl : small (lastN out) := by
      unfold lastN
      split
      · intro x hx; cases hx
      · exact (hso _ (getB_mem out _ (by omega))).2
    have hbl := bytesN_lt out.length hsl
    by_cases c0 : out.length < 512
    · by_cases c1 : at_ < p.length
      · have hd : p.drop at_ = p.getD at_ 0 :: p.drop (at_ + 1) := drop_getD p at_ c1
        have hkf := kind_f out.length (by omega)
        by_cases c2 : p.getD at_ 0 = kindN out.length
        · have ht := rparse_tail p hp at_ (bytesN out.length (lastN out)) out c0 (by omega) (bs61 (out ++ parseN (n + 1) out.length (lastN out) (p.drop at_))) (by omega) (fun h => by
            have hlen : bytesN out.length (lastN out) ≤ (p.drop (at_ + 1)).length := by rw [List.length_drop]; omega
            have e : parseN (n + 1) out.length (lastN out) (p.drop at_) = (p.getD at_ 0, (p.drop (at_ + 1)).take (bytesN out.length (lastN out))) :: parseN n (out.length + 1) ((p.drop (at_ + 1)).take (bytesN out.length (lastN out))) ((p.drop (at_ + 1)).drop (bytesN out.length (lastN out))) := by
              rw [hd, parseN_cons, if_pos ⟨c0, c2, hlen⟩]
            have h1 := ih (at_ + 1 + bytesN out.length (lastN out)) (out ++ [(p.getD at_ 0, (p.drop (at_ + 1)).take (bytesN out.length (lastN out)))]) (by omega) (by omega) (by
              intro b hb
              rcases List.mem_append.1 hb with hb | hb
              · exact hso b hb
              · rw [List.mem_singleton.1 hb]
                exact ⟨getD_small hs _, small_take (small_drop hs _) _⟩) (by rw [lastN_snoc, List.length_append]; exact ahead_take hlen)
            rw [lastN_snoc, List.length_append, List.length_singleton, List.append_assoc, List.singleton_append] at h1
            rw [e, List.drop_drop]
            exact h1) (fun h => by
            have e : parseN (n + 1) out.length (lastN out) (p.drop at_) = [] := by
              rw [hd, parseN_cons, if_neg (fun h2 => h (by have := h2.2.2; rw [List.length_drop] at this; omega))]
            rw [e, List.append_nil])
          have hbf := bytes_f out.length (by omega) (lastN out) hsl ha
          refine Ev.step (f := _) (fun k => ?_) ht
          conv => lhs; unfold kotatsuref05_Parse.l0
          rw [if_pos (by rw [bs61_len]; omega), if_pos (by rw [cst_length]; omega), if_pos (by omega), bs61_len, hkf]
          simp only [Option.bind_some]
          rw [rd_cst, if_pos (by rw [c2])]
          by_cases c3 : out.length = 0
          · rw [if_neg (by omega)]
            have e0 : lastN out = [] := by unfold lastN; rw [if_pos c3]
            rw [e0] at hbf ⊢
            rw [show ([] : List Int) = cst [] from rfl, hbf]
            simp only [Option.bind_some, rd_cst, bs61_len]
          · have e0 : lastN out = (out.getD (out.length - 1) (0, [])).2 := by unfold lastN; rw [if_neg c3]
            have w5 : wrap64 ((out.length : Int) - 1) = ((out.length - 1 : Nat) : Int) := by rw [w64 (by omega) (by omega)]; omega
            rw [if_pos (by omega), w5, if_pos (by omega), if_pos (by omega), rd61]
            simp only [b61]
            rw [← e0, hbf]
            simp only [Option.bind_some, rd_cst, bs61_len]
        · have e : parseN (n + 1) out.length (lastN out) (p.drop at_) = [] := by
            rw [hd, parseN_cons, if_neg (fun h => c2 h.2.1)]
          rw [e, List.append_nil]
          refine Ev.step (f := fun _ => some (bs61 out)) (fun k => ?_) (Ev.now _)
          conv => lhs; unfold kotatsuref05_Parse.l0
          rw [if_pos (by rw [bs61_len]; omega), if_pos (by rw [cst_length]; omega), if_pos (by omega), bs61_len, hkf]
          simp only [Option.bind_some]
          rw [rd_cst, if_neg (by omega)]
      · have e : parseN (n + 1) out.length (lastN out) (p.drop at_) = [] := by
          rw [List.drop_eq_nil_of_le (by omega)]; rfl
        rw [e, List.append_nil]
        refine Ev.step (f := fun _ => some (bs61 out)) (fun k => ?_) (Ev.now _)
        conv => lhs; unfold kotatsuref05_Parse.l0
        rw [if_pos (by rw [bs61_len]; omega), if_neg (by rw [cst_length]; omega)]
    · have e : parseN (n + 1) out.length (lastN out) (p.drop at_) = [] := by
        cases hd : p.drop at_ with
        | nil => rfl
        | cons k r => rw [parseN_cons, if_neg (fun h => c0 h.1)]
      rw [e, List.append_nil]
      refine Ev.step (f := fun _ => some (bs61 out)) (fun k => ?_) (Ev.now _)
      conv => lhs; unfold kotatsuref05_Parse.l0
      rw [if_neg (by rw [bs61_len]; omega)]
theorem rparse_ev (p : List Nat) (hs : small p) (hp : p.length < 1000000000000) : Ev (fun k => kotatsuref05_Parse.f k (cst p)) (bs61 (parseN (p.length + 1) 0 [] p)) := by
  have := rparse_l0 p hs hp (p.length + 1) 0 [] (Nat.zero_le _) (by omega) (fun _ h => by cases h) (fun h => by simp at h)
  simp only [List.drop_zero, List.nil_append, List.length_nil] at this
  exact this

/-! ### kotatsuref01_Same -/
theorem same_l0 (a b : List Int) (hl : a.length = b.length) (hm : a.length ≤ 140737488355328) (d : Nat) : ∀ i : Nat, i + d = a.length →
    Ev (fun k => kotatsuref01_Same.l0 k a b (a.length : Int) (i : Int)) (decide (a.drop i = b.drop i)) := by
  induction d with
  | zero =>
    intro i hi
    rw [List.drop_eq_nil_of_le (by omega), List.drop_eq_nil_of_le (by omega)]
    refine Ev.step (f := fun _ => some true) (fun k => ?_) (Ev.now _)
    simp only [kotatsuref01_Same.l0]
    rw [if_neg (by omega)]
  | succ d ih =>
    intro i hi
    have ha : a.drop i = rd a (i : Int) :: a.drop (i + 1) := by
      unfold rd
      rw [List.drop_eq_getElem_cons (by omega), List.getD_eq_getElem?_getD, Int.toNat_natCast, List.getElem?_eq_getElem (by omega)]; rfl
    have hb : b.drop i = rd b (i : Int) :: b.drop (i + 1) := by
      unfold rd
      rw [List.drop_eq_getElem_cons (by omega), List.getD_eq_getElem?_getD, Int.toNat_natCast, List.getElem?_eq_getElem (by omega)]; rfl
    by_cases c : rd a (i : Int) = rd b (i : Int)
    · have h1 := ih (i + 1) (by omega)
      have e : decide (a.drop i = b.drop i) = decide (a.drop (i + 1) = b.drop (i + 1)) := by
        rw [ha, hb, c]; simp
      rw [e]
      refine Ev.step (f := fun k => kotatsuref01_Same.l0 k a b (a.length : Int) ((i + 1 : Nat) : Int)) (fun k => ?_) h1
      simp only [kotatsuref01_Same.l0]
      rw [if_pos (by omega), if_pos (by omega), if_pos (by omega), if_pos (by omega), if_pos c, w64 (by omega) (by omega)]
      rfl
    · have e : decide (a.drop i = b.drop i) = false := by
        rw [ha, hb]; simp [c]
      rw [e]
      refine Ev.step (f := fun _ => some false) (fun k => ?_) (Ev.now _)
      simp only [kotatsuref01_Same.l0]
      rw [if_pos (by omega), if_pos (by omega), if_pos (by omega), if_pos (by omega), if_neg c]
theorem same_ev (a b : List Int) (hm : a.length ≤ 140737488355328) : Ev (fun k => kotatsuref01_Same.f k a b) (decide (a = b)) := by
  unfold kotatsuref01_Same.f
  by_cases c : a.length = b.length
  · have := same_l0 a b c hm a.length 0 (by omega)
    refine Ev.congr (fun k => ?_) this
    rw [if_pos (by omega)]
    rfl
  · have e : decide (a = b) = false := decide_eq_false (fun h => c (by rw [h]))
    rw [e]
    refine Ev.congr (fun k => ?_) (Ev.now _)
    rw [if_neg (by omega)]

/-! ### kotatsuref05_Same -/
theorem rsame_l0 (l m : List Blk) (hlm : l.length = m.length) (hll : l.length < 1000000000) (hb : ∀ b ∈ l, b.2.length ≤ 140737488355328) (d : Nat) : ∀ i : Nat, i + d = l.length →
    Ev (fun k => kotatsuref05_Same.l0 k (bs61 l) (bs61 m) (l.length : Int) (i : Int)) (decide (l.drop i = m.drop i)) := by
  induction d with
  | zero =>
    intro i hi
    rw [List.drop_eq_nil_of_le (by omega), List.drop_eq_nil_of_le (by omega)]
    refine Ev.step (f := fun _ => some true) (fun k => ?_) (Ev.now _)
    simp only [kotatsuref05_Same.l0]
    rw [if_neg (by omega)]
  | succ d ih =>
    intro i hi
    have h1 := ih (i + 1) (by omega)
    rw [dropB l i (by omega), dropB m i (by omega)]
    have hbl := hb _ (getB_mem l i (by omega))
    generalize ha : l.getD i (0, []) = x at *
    generalize hc : m.getD i (0, []) = y at *
    have hs := same_ev (cst x.2) (cst y.2) (by rw [cst_length]; exact hbl)
    have hcst : decide (cst x.2 = cst y.2) = decide (x.2 = y.2) := by
      by_cases h : x.2 = y.2
      · rw [h]; simp
      · rw [decide_eq_false h, decide_eq_false (fun h2 => h (cst_inj h2))]
    rw [hcst] at hs
    by_cases c1 : x.1 = y.1
    · have e : decide (x :: l.drop (i + 1) = y :: m.drop (i + 1)) = (if decide (x.2 = y.2) = true then decide (l.drop (i + 1) = m.drop (i + 1)) else false) := by
        by_cases c2 : x.2 = y.2
        · have hxy : x = y := Prod.ext c1 c2
          rw [hxy]; simp
        · have hxy : x ≠ y := fun h => c2 (by rw [h])
          simp [c2, hxy]
      rw [e]
      refine Ev.step (f := fun k => (kotatsuref01_Same.f k (cst x.2) (cst y.2)).bind fun t => if t = true then kotatsuref05_Same.l0 k (bs61 l) (bs61 m) (l.length : Int) ((i + 1 : Nat) : Int) else some false) (fun k => ?_) (Ev.bind (f := fun k t => if t = true then kotatsuref05_Same.l0 k (bs61 l) (bs61 m) (l.length : Int) ((i + 1 : Nat) : Int) else some false) hs ?_)
      · simp only [kotatsuref05_Same.l0]
        rw [if_pos (by omega), if_pos (by omega), if_pos (by rw [bs61_len]; omega), if_pos (by rw [bs61_len]; omega), rd61, rd61, ha, hc, w64 (by omega) (by omega), if_pos (show (b61 x).f0 = (b61 y).f0 by simp only [b61, c1])]
        rfl
      · by_cases c2 : x.2 = y.2
        · simp only [c2, decide_true, if_true]; exact h1
        · simp only [c2, decide_false, Bool.false_eq_true, if_false]; exact Ev.now _
    · have hxy : x ≠ y := fun h => c1 (by rw [h])
      have e : decide (x :: l.drop (i + 1) = y :: m.drop (i + 1)) = false := by simp [hxy]
      rw [e]
      refine Ev.step (f := fun _ => some false) (fun k => ?_) (Ev.now _)
      simp only [kotatsuref05_Same.l0]
      rw [if_pos (by omega), if_pos (by omega), if_pos (by rw [bs61_len]; omega), if_pos (by rw [bs61_len]; omega), rd61, rd61, ha, hc, if_neg (show ¬ (b61 x).f0 = (b61 y).f0 by simp only [b61]; omega)]
theorem rsame_ev (l m : List Blk) (hll : l.length < 1000000000) (hb : ∀ b ∈ l, b.2.length ≤ 140737488355328) : Ev (fun k => kotatsuref05_Same.f k (bs61 l) (bs61 m)) (decide (l = m)) := by
  unfold kotatsuref05_Same.f
  rw [bs61_len, bs61_len]
  by_cases c : l.length = m.length
  · have := rsame_l0 l m c hll hb l.length 0 (by omega)
    refine Ev.congr (fun k => ?_) this
    rw [if_pos (by omega)]
    rfl
  · have e : decide (l = m) = false := decide_eq_false (fun h => c (by rw [h]))
    rw [e]
    refine Ev.congr (fun k => ?_) (Ev.now _)
    rw [if_neg (by omega)]

theorem j0_ev (p : List Nat) (hs : small p) (hp : p.length < 1000000) : Ev (fun k => kotatsulaw05_BlockParses.j0 k (cst p)) true := by
  have hlen := parseN_len (p.length + 1) 0 [] p
  have hs2 := small2_parseN (p.length + 1) 0 [] p hs
  have hright := rightN_parseN (p.length + 1) 0 [] p
  have h1 := parse_ev p hs (by omega)
  have h2 := rparse_ev p hs (by omega)
  generalize parseN (p.length + 1) 0 [] p = l at *
  have hb : ∀ b ∈ l, b.2.length ≤ 140737488355328 := by
    intro b hb
    have : 1 + b.2.length ≤ sizeN l := by
      obtain ⟨a, c, rfl⟩ := List.append_of_mem hb
      rw [sizeN_append]
      have : sizeN (b :: c) = (1 + b.2.length) + sizeN c := by simp [sizeN]
      omega
    omega
  have h3 := own_ev l (by omega)
  have h4 := rsame_ev l l (by omega) hb
  rw [decide_eq_true rfl] at h4
  have h5 := flat_ev l (by omega) (by omega)
  have h6 := right_ev l hs2 (by omega)
  rw [hright] at h6
  have h7 := size_ev l (by omega) (by omega)
  refine Ev.step (f := fun k => (block_Parse.f k (cst p)).bind fun bt => ((kotatsuref05_Parse.f k (cst p)).bind fun t222 => ((kotatsulaw05_own.f k bt.1).bind fun t225 => ((kotatsuref05_Same.f k t225 t222).bind fun t228 => (if t228 = true then ((kotatsuref05_Flat.f k t222).bind fun t229 => (if bt.2 = (t229.length : Int) then ((block_Right.f k bt.1).bind fun t232 => (if t232 = true then ((block_Size.f k bt.1).bind fun t233 => (some (t233 == bt.2))) else (some false))) else (some false))) else (some false)))))) (fun k => rfl) ?_
  refine Ev.bind (f := fun k bt => _) h1 ?_
  refine Ev.bind (f := fun k t => _) h2 ?_
  refine Ev.bind (f := fun k t => _) h3 ?_
  refine Ev.bind (f := fun k t => _) h4 ?_
  simp only [if_true]
  refine Ev.bind (f := fun k t => _) h5 ?_
  have hz : ((sizeN l : Nat) : Int) = ((cst (flatN l)).length : Int) := by rw [cst_length, flatN_len]
  simp only [if_pos hz]
  refine Ev.bind (f := fun k t => _) h6 ?_
  simp only [if_true]
  refine Ev.congr (f := fun k => (block_Size.f k (bs43 l)).bind fun t => some (t == ((sizeN l : Nat) : Int))) (fun k => rfl) ?_
  have h8 : Ev (fun k => some (((sizeN l : Nat) : Int) == ((sizeN l : Nat) : Int))) true := by rw [beq_self_eq_true]; exact Ev.now _
  exact Ev.bind (f := fun k t => some (t == ((sizeN l : Nat) : Int))) h7 h8
theorem BlockParses : kotatsulaw05_BlockParses.Pure := by
  intro l0 a1 _ hl hw
  obtain ⟨ns, rfl, hs⟩ := cst_of l0 hw
  rw [cst_length] at hl
  have hc := cut_ev (cst ns) 300 (by decide) (by rw [cst_length]; omega)
  rw [cst_take] at hc
  have hs' := small_take hs 300
  have hlen : (ns.take 300).length ≤ 300 := List.length_take_le _ _
  generalize ns.take 300 = p at *
  refine Ev.rounds (Ev.bind (f := fun k t => if t = true then _ else _) awake_ev ?_)
  simp only [if_true]
  refine Ev.bind (f := fun k t => _) hc ?_
  cases a1 with
  | true =>
    simp only [if_true]
    obtain ⟨hd, e, hs2, hl2⟩ := head_cst (⟨#[120]⟩ : ByteArray) 1 (by decide)
    have hdk := disk_f (⟨#[120]⟩ : ByteArray) 1 [] (by simp) (by simp)
    have eb : ([⟨1, block_Disk.head (⟨#[120]⟩ : ByteArray) 1⟩, ⟨2, [((([] : List (List S43)).length : Nat) : Int) % 256]⟩] ++ ([] : List (List S43)).flatten : List S43) = bs43 [(1, hd), (2, [0])] := by
      rw [show block_Disk.head (⟨#[120]⟩ : ByteArray) 1 = cst hd from e]; simp [bs43, b43, cst]
    rw [eb] at hdk
    rw [hdk]
    simp only [Option.bind_some]
    have h1 := own_ev [(1, hd), (2, [0])] (by simp)
    have h2 := flat_ev [(1, hd), (2, [0])] (by simp [sizeN, hl2]) (by simp)
    have hsm : small (flatN [(1, hd), (2, [0])]) := small_flatN (by
      intro b hb
      simp only [List.mem_cons, List.not_mem_nil, or_false] at hb
      rcases hb with rfl | rfl
      · exact ⟨by show 1 < 256; decide, hs2⟩
      · exact ⟨by decide, fun x hx => by simp at hx; omega⟩)
    have hfl : (flatN [(1, hd), (2, [0])]).length = 58 := by rw [flatN_len]; simp [sizeN, hl2]
    generalize flatN [(1, hd), (2, [0])] = q at *
    have h3 := join_ev [cst q, cst p] (by simp) (by simp only [List.flatten_cons, List.flatten_nil, List.append_nil, List.length_append, cst_length]; omega)
    rw [show [cst q, cst p].flatten = cst (q ++ p) by simp [cst_append]] at h3
    refine Ev.bind (f := fun k t => _) h1 ?_
    refine Ev.bind (f := fun k t => _) h2 ?_
    refine Ev.bind (f := fun k t => _) h3 ?_
    exact j0_ev (q ++ p) (small_append hsm hs') (by rw [List.length_append]; omega)
  | false =>
    simp only [Bool.false_eq_true, if_false]
    exact j0_ev p hs' (by omega)

end Go.Proofs.Ytgpgoffnfdjhcaa.Pure
