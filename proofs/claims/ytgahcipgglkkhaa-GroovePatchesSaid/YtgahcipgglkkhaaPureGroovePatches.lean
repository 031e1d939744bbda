/- GroovePatches: bytes go to a place if they lie in it, and nothing else changes: for every input. No condition. -/
import Derived.Test.YtgahcipgglkkhaaPGroovePatchesx4
import Derived.Test.YtgahcipgglkkhaaU
namespace Go.Proofs.Ytgahcipgglkkhaa.Pure
open Go.RowKit Go.Proofs.Ytgahcipgglkkhaa.PGroovePatches Go.Proofs.Ytgahcipgglkkhaa.U Go.Proofs.YtgahcipgglkkhaaW.PrintWords Go.Proofs.YtgahcipgglkkhaaW.PrintLast Go.Proofs.YtgahcipgglkkhaaW.PrintMore
set_option linter.unusedVariables false
set_option linter.unusedSimpArgs false

/-! ### blocks05 -/
/-! a block: its kind, its bytes -/
abbrev Blk := Nat × List Nat
def small2 (l : List Blk) : Prop := ∀ b ∈ l, b.1 < 256 ∧ small b.2
def b43 (b : Blk) : S53 := ⟨(b.1 : Int), cst b.2⟩
def bs43 (l : List Blk) : List S53 := l.map b43
theorem bs43_len (l : List Blk) : (bs43 l).length = l.length := by simp [bs43]
theorem rd43 (l : List Blk) (i : Nat) : rd_T53 (bs43 l) (i : Int) = b43 (l.getD i (0, [])) := by
  unfold rd_T53 bs43
  rw [List.getD_eq_getElem?_getD, List.getD_eq_getElem?_getD, Int.toNat_natCast, List.getElem?_map]
  cases l[i]? <;> rfl
theorem dropB (l : List Blk) (i : Nat) (h : i < l.length) : l.drop i = l.getD i (0, []) :: l.drop (i + 1) := by
  rw [List.drop_eq_getElem_cons h, List.getD_eq_getElem?_getD, List.getElem?_eq_getElem h]; rfl
theorem takeB (l : List Blk) (i : Nat) (h : i < l.length) : l.take (i + 1) = l.take i ++ [l.getD i (0, [])] := by
  rw [List.take_succ_eq_append_getElem h, List.getD_eq_getElem?_getD, List.getElem?_eq_getElem h]; rfl
theorem getB_mem (l : List Blk) (i : Nat) (h : i < l.length) : l.getD i (0, []) ∈ l := by
  rw [List.getD_eq_getElem?_getD, List.getElem?_eq_getElem h]; exact List.getElem_mem h
def kindN (i : Nat) : Nat := if i < 2 then i + 1 else 3 + i % 2
def bytesN (i : Nat) (last : List Nat) : Nat := if i = 0 then 55 else if i = 1 then 1 else if i % 2 = 0 then 15 else last.getD 12 0 + 256 * last.getD 13 0
def ahead (i : Nat) (last : List Nat) : Prop := 2 ≤ i → i % 2 = 1 → last.length = 15
def fits (i : Nat) (last : List Nat) (b : Blk) : Prop := i < 512 ∧ b.1 = kindN i ∧ b.2.length = bytesN i last
instance (i : Nat) (last : List Nat) (b : Blk) : Decidable (fits i last b) := by unfold fits; exact inferInstance
def rightN : Nat → List Nat → List Blk → Bool
  | _, _, [] => true
  | i, last, b :: l => if fits i last b then rightN (i + 1) b.2 l else false
def sizeN (l : List Blk) : Nat := (l.map fun b => 1 + b.2.length).sum
def flatN (l : List Blk) : List Nat := l.flatMap fun b => b.1 :: b.2
def parseN : Nat → Nat → List Nat → List Nat → List Blk
  | 0, _, _, _ => []
  | _ + 1, _, _, [] => []
  | n + 1, i, last, k :: r => if i < 512 ∧ k = kindN i ∧ bytesN i last ≤ r.length then (k, r.take (bytesN i last)) :: parseN n (i + 1) (r.take (bytesN i last)) (r.drop (bytesN i last)) else []
theorem parseN_cons (n i : Nat) (last : List Nat) (k : Nat) (r : List Nat) : parseN (n + 1) i last (k :: r) = if i < 512 ∧ k = kindN i ∧ bytesN i last ≤ r.length then (k, r.take (bytesN i last)) :: parseN n (i + 1) (r.take (bytesN i last)) (r.drop (bytesN i last)) else [] := rfl
theorem wr3 (a n : Nat) (h : a < 1000000000000) (h2 : n < 1000000000) : wrap64 ((a : Int) + 1) = ((a + 1 : Nat) : Int) ∧ wrap64 (((a + 1 : Nat) : Int) + (n : Int)) = ((a + 1 + n : Nat) : Int) ∧ wrap64 ((a : Int) + wrap64 (1 + (n : Int))) = ((a + 1 + n : Nat) : Int) := by
  refine ⟨?_, ?_, ?_⟩
  · rw [w64 (by omega) (by omega)]; rfl
  · rw [w64 (by omega) (by omega)]; omega
  · rw [w64 (n := 1 + (n : Int)) (by omega) (by omega), w64 (by omega) (by omega)]; omega
theorem kindN_lt (i : Nat) : kindN i < 5 := by unfold kindN; split <;> omega
theorem kindN_pos (i : Nat) : 0 < kindN i := by unfold kindN; split <;> omega
theorem bytesN_lt (i : Nat) {last : List Nat} (hs : small last) : bytesN i last < 65536 := by
  have h0 := getD_small hs 12
  have h1 := getD_small hs 13
  unfold bytesN
  split
  · decide
  split
  · decide
  split
  · decide
  · omega
theorem ahead_next {i : Nat} {last : List Nat} {b : Blk} (h : fits i last b) : ahead (i + 1) b.2 := by
  intro h2 h1
  have h3 := h.2.2
  unfold bytesN at h3
  rw [if_neg (by omega), if_neg (by omega), if_pos (by omega)] at h3
  exact h3
theorem ahead_take {i : Nat} {last r : List Nat} (h : bytesN i last ≤ r.length) : ahead (i + 1) (r.take (bytesN i last)) := by
  intro h2 h1
  rw [List.length_take, Nat.min_eq_left h]
  unfold bytesN
  rw [if_neg (by omega), if_neg (by omega), if_pos (by omega)]
theorem sizeN_append (a b : List Blk) : sizeN (a ++ b) = sizeN a + sizeN b := by simp [sizeN]
theorem sizeN_take (l : List Blk) (i : Nat) (h : i < l.length) : sizeN (l.take (i + 1)) = sizeN (l.take i) + (1 + (l.getD i (0, [])).2.length) := by
  rw [takeB l i h, sizeN_append]; simp [sizeN]
theorem sizeN_le (l : List Blk) (i : Nat) : sizeN (l.take i) ≤ sizeN l := by
  have h := sizeN_append (l.take i) (l.drop i)
  rw [List.take_append_drop] at h
  omega
theorem flatN_len (l : List Blk) : (flatN l).length = sizeN l := by
  unfold flatN sizeN
  rw [List.length_flatMap]
  congr 1
  apply List.map_congr_left
  intro b _
  simp; omega
theorem flatN_append (a b : List Blk) : flatN (a ++ b) = flatN a ++ flatN b := by simp [flatN]
theorem small_flatN {l : List Blk} (h : small2 l) : small (flatN l) := by
  intro x hx
  obtain ⟨b, hb, h2⟩ := List.mem_flatMap.1 hx
  rcases List.mem_cons.1 h2 with h3 | h3
  · rw [h3]; exact (h b hb).1
  · exact (h b hb).2 x h3
/-- what is read may be -/
theorem rightN_parseN (n : Nat) : ∀ (i : Nat) (last p : List Nat), rightN i last (parseN n i last p) = true := by
  induction n with
  | zero => intro i last p; rfl
  | succ n ih =>
    intro i last p
    cases p with
    | nil => rfl
    | cons k r =>
      unfold parseN
      split
      · rename_i h
        unfold rightN
        rw [if_pos ⟨h.1, h.2.1, by rw [List.length_take, Nat.min_eq_left h.2.2]⟩]
        exact ih _ _ _
      · rfl
theorem small2_parseN (n : Nat) : ∀ (i : Nat) (last p : List Nat), small p → small2 (parseN n i last p) := by
  induction n with
  | zero => intro i last p _ b hb; cases hb
  | succ n ih =>
    intro i last p hp
    cases p with
    | nil => intro b hb; cases hb
    | cons k r =>
      unfold parseN
      split
      · rename_i h
        have hr : small r := fun x hx => hp x (List.mem_cons_of_mem _ hx)
        intro b hb
        rcases List.mem_cons.1 hb with rfl | hb
        · exact ⟨hp _ List.mem_cons_self, small_take hr _⟩
        · exact ih _ _ _ (small_drop hr _) b hb
      · intro b hb; cases hb
theorem parseN_len (n : Nat) : ∀ (i : Nat) (last p : List Nat), (parseN n i last p).length ≤ n ∧ sizeN (parseN n i last p) ≤ p.length := by
  induction n with
  | zero => intro i last p; exact ⟨Nat.le_refl _, Nat.zero_le _⟩
  | succ n ih =>
    intro i last p
    cases p with
    | nil => exact ⟨Nat.zero_le _, Nat.zero_le _⟩
    | cons k r =>
      unfold parseN
      split
      · rename_i h
        have := ih (i + 1) (r.take (bytesN i last)) (r.drop (bytesN i last))
        refine ⟨by simp only [List.length_cons]; omega, ?_⟩
        have e : sizeN ((k, r.take (bytesN i last)) :: parseN n (i + 1) (r.take (bytesN i last)) (r.drop (bytesN i last))) = (1 + (r.take (bytesN i last)).length) + sizeN (parseN n (i + 1) (r.take (bytesN i last)) (r.drop (bytesN i last))) := by simp [sizeN]
        rw [e, List.length_take]
        have h2 := this.2
        rw [List.length_drop] at h2
        simp only [List.length_cons]
        omega
      · exact ⟨Nat.zero_le _, Nat.zero_le _⟩
def lastN (out : List Blk) : List Nat := if out.length = 0 then [] else (out.getD (out.length - 1) (0, [])).2
theorem lastN_snoc (out : List Blk) (b : Blk) : lastN (out ++ [b]) = b.2 := by
  unfold lastN
  rw [if_neg (by simp)]
  simp [List.getD_eq_getElem?_getD]
def lastL : List Nat → List Blk → List Nat
  | last, [] => last
  | _, b :: l => lastL b.2 l
theorem lastL_eq (l : List Blk) : ∀ last, lastL last l = if l.length = 0 then last else (l.getD (l.length - 1) (0, [])).2 := by
  induction l with
  | nil => intro last; rfl
  | cons b l ih =>
    intro last
    rw [lastL, ih b.2, if_neg (show ¬ (b :: l).length = 0 by simp)]
    by_cases c : l.length = 0
    · have : l = [] := List.length_eq_zero_iff.1 c
      subst this; rfl
    · rw [if_neg c]
      obtain ⟨n, hn⟩ : ∃ n, l.length = n + 1 := ⟨l.length - 1, by omega⟩
      simp [hn, List.getD_eq_getElem?_getD]
theorem lastN_eq (l : List Blk) : lastN l = lastL [] l := by rw [lastL_eq]; rfl
theorem rightN_ahead (l : List Blk) : ∀ (i : Nat) (last : List Nat), rightN i last l = true → ahead i last → ahead (i + l.length) (lastL last l) := by
  induction l with
  | nil => intro i last _ h; exact h
  | cons b l ih =>
    intro i last h ha
    unfold rightN at h
    by_cases c : fits i last b
    · rw [if_pos c] at h
      have := ih (i + 1) b.2 h (ahead_next c)
      rw [show i + (b :: l).length = i + 1 + l.length by simp; omega]
      exact this
    · rw [if_neg c] at h; cases h
theorem rightN_le (l : List Blk) : ∀ (i : Nat) (last : List Nat), rightN i last l = true → i ≤ 512 → i + l.length ≤ 512 := by
  induction l with
  | nil => intro i last _ h; exact h
  | cons b l ih =>
    intro i last h hi
    unfold rightN at h
    by_cases c : fits i last b
    · rw [if_pos c] at h
      have := ih (i + 1) b.2 h c.1
      simp only [List.length_cons]; omega
    · rw [if_neg c] at h; cases h
/-- blocks that may be are read again, whatever stands behind them -/
theorem parseN_right (l : List Blk) : ∀ (n i : Nat) (last more : List Nat), rightN i last l = true → l.length ≤ n → parseN n i last (flatN l ++ more) = l ++ parseN (n - l.length) (i + l.length) (lastL last l) more := by
  induction l with
  | nil => intro n i last more _ _; rfl
  | cons b l ih =>
    intro n i last more h hn
    unfold rightN at h
    by_cases c : fits i last b
    · rw [if_pos c] at h
      obtain ⟨n, rfl⟩ : ∃ m, n = m + 1 := ⟨n - 1, by simp only [List.length_cons] at hn; omega⟩
      have e : flatN (b :: l) ++ more = b.1 :: (b.2 ++ (flatN l ++ more)) := by simp [flatN]
      have hl := c.2.2
      rw [e, parseN_cons, if_pos ⟨c.1, c.2.1, by rw [List.length_append]; omega⟩, ← hl, List.take_left', List.drop_left', ih n (i + 1) b.2 more h (by simp only [List.length_cons] at hn; omega)]
      · simp only [List.length_cons, List.cons_append, lastL]
        rw [show n + 1 - (l.length + 1) = n - l.length by omega, show i + (l.length + 1) = i + 1 + l.length by omega]
      · rfl
      · rfl
    · rw [if_neg c] at h; cases h
theorem parseN_full (n i : Nat) (last p : List Nat) (h : 512 ≤ i) : parseN n i last p = [] := by
  cases n with
  | zero => rfl
  | succ n =>
    cases p with
    | nil => rfl
    | cons k r => rw [parseN_cons, if_neg (by omega)]
theorem parseN_nil (n i : Nat) (last : List Nat) : parseN n i last [] = [] := by cases n <;> rfl
theorem small2_getB {l : List Blk} (h : small2 l) : small (lastN l) := by
  unfold lastN
  split
  · intro x hx; cases hx
  · exact (h _ (getB_mem l _ (by omega))).2

/-! ### block_Disk -/
theorem disk_f (s : ByteArray) (side : Int) (ll : List (List S53)) (h : (ll.map List.length).sum ≤ 1000000000) (h2 : ll.length ≤ 1000000000) : block_Disk.f s side ll = some ([⟨1, block_Disk.head s side⟩, ⟨2, [(ll.length : Int) % 256]⟩] ++ ll.flatten) := by
  unfold block_Disk.f
  rw [if_pos ⟨h, h2⟩]
/-- the first block's bytes, as numbers -/
theorem head_cst (s : ByteArray) (side : Nat) (hs : side < 256) : ∃ ns, block_Disk.head s (side : Int) = cst ns ∧ small ns ∧ ns.length = 55 := by
  have hl := block_Disk.head_len s (side : Int)
  have hb : ∀ x ∈ block_Disk.head s (side : Int), (Lit.int .u8 x).wf = true := by
    have hw : ∀ x : Int, 0 ≤ x → x < 256 → (Lit.int .u8 x).wf = true := by
      intro x h0 h1
      simp [Lit.wf, IntKind.min, IntKind.max, IntKind.signed, IntKind.bits]
      omega
    intro x hx
    unfold block_Disk.head at hx
    rcases List.mem_or_eq_of_mem_set hx with h | h
    · unfold H.spl at h
      rcases List.mem_append.1 h with h | h
      · rw [List.eq_of_mem_replicate (List.mem_of_mem_take h)]; exact hw 0 (by omega) (by omega)
      · rcases List.mem_append.1 h with h | h
        · obtain ⟨b, _, rfl⟩ := List.mem_map.1 (List.mem_of_mem_take h)
          have := b.toNat_lt
          exact hw _ (by omega) (by omega)
        · rw [List.eq_of_mem_replicate (List.mem_of_mem_drop h)]; exact hw 0 (by omega) (by omega)
    · rw [h]; exact hw _ (by omega) (by omega)
  obtain ⟨ns, e, hsm⟩ := cst_of _ hb
  exact ⟨ns, e, hsm, by rw [← cst_length, ← e, hl]⟩

/-! ### block_Size -/
theorem size_l0 (l : List Blk) (hl : sizeN l < 1000000000000) (hll : l.length < 1000000000000) (d : Nat) : ∀ i : Nat, i + d = l.length →
    Ev (fun k => block_Size.l0 k ((sizeN (l.take i) : Nat) : Int) (bs43 l) (l.length : Int) (i : Int)) ((sizeN l : Nat) : Int) := by
  induction d with
  | zero =>
    intro i hi
    rw [List.take_of_length_le (by omega)]
    refine Ev.step (f := fun _ => some ((sizeN l : Nat) : Int)) (fun k => ?_) (Ev.now _)
    simp only [block_Size.l0]
    rw [if_neg (by omega)]
  | succ d ih =>
    intro i hi
    have h1 := ih (i + 1) (by omega)
    have hle := sizeN_le l (i + 1)
    have e := sizeN_take l i (by omega)
    refine Ev.step (f := fun k => block_Size.l0 k ((sizeN (l.take (i + 1)) : Nat) : Int) (bs43 l) (l.length : Int) ((i + 1 : Nat) : Int)) (fun k => ?_) h1
    simp only [block_Size.l0]
    rw [if_pos (by omega), if_pos (by omega), if_pos (by rw [bs43_len]; omega), rd43]
    simp only [b43, cst_length]
    rw [w64 (n := 1 + _) (by omega) (by omega), w64 (n := ((sizeN (l.take i) : Nat) : Int) + _) (by omega) (by omega), w64 (by omega) (by omega)]
    congr 1
    omega
theorem size_ev (l : List Blk) (hl : sizeN l < 1000000000000) (hll : l.length < 1000000000000) : Ev (fun k => block_Size.f k (bs43 l)) ((sizeN l : Nat) : Int) := by
  have := size_l0 l hl hll l.length 0 (by omega)
  unfold block_Size.f
  rw [bs43_len]
  exact this

/-! ### groove07 -/
/-- a block as the head finds it -/
def sum2 (s : Nat) : List Nat := [s % 256, s / 256]
def grooveB (b : Blk) : List Nat := (128 :: b.1 :: b.2) ++ sum2 (shortN (128 :: b.1 :: b.2)) ++ List.replicate 120 0
def bodyG (l : List Blk) : List Nat := l.flatMap grooveB
def layG (l : List Blk) : List Nat := List.replicate 3500 0 ++ bodyG l
def fullG (l : List Blk) : Nat := 3500 + sizeN l + l.length * 123
theorem grooveB_len (b : Blk) : (grooveB b).length = b.2.length + 124 := by simp [grooveB, sum2]
theorem bodyG_append (a b : List Blk) : bodyG (a ++ b) = bodyG a ++ bodyG b := by simp [bodyG]
theorem bodyG_cons (b : Blk) (l : List Blk) : bodyG (b :: l) = grooveB b ++ bodyG l := by simp [bodyG]
theorem bodyG_len (l : List Blk) : (bodyG l).length = sizeN l + l.length * 123 := by
  induction l with
  | nil => rfl
  | cons b l ih =>
    rw [bodyG_cons, List.length_append, grooveB_len, ih]
    have : sizeN (b :: l) = (1 + b.2.length) + sizeN l := by simp [sizeN]
    rw [this]
    simp only [List.length_cons]
    omega
theorem layG_len (l : List Blk) : (layG l).length = fullG l := by
  unfold layG fullG
  rw [List.length_append, List.length_replicate, bodyG_len]; omega
theorem small_grooveB {b : Blk} (h : b.1 < 256 ∧ small b.2) : small (grooveB b) := by
  have hs := shortN_lt (128 :: b.1 :: b.2)
  refine small_append (small_append ?_ ?_) ?_
  · intro x hx
    rcases List.mem_cons.1 hx with rfl | hx
    · decide
    rcases List.mem_cons.1 hx with rfl | hx
    · exact h.1
    · exact h.2 x hx
  · intro x hx
    simp only [sum2, List.mem_cons, List.not_mem_nil, or_false] at hx
    omega
  · intro x hx; rw [List.eq_of_mem_replicate hx]; decide
theorem small_bodyG {l : List Blk} (h : small2 l) : small (bodyG l) := by
  intro x hx
  obtain ⟨b, hb, h2⟩ := List.mem_flatMap.1 hx
  exact small_grooveB (h b hb) x h2
theorem small_layG {l : List Blk} (h : small2 l) : small (layG l) := small_append (fun x hx => by rw [List.eq_of_mem_replicate hx]; decide) (small_bodyG h)
/-- noughts ahead are passed -/
def dropZ : List Nat → List Nat
  | [] => []
  | x :: l => if x = 0 then dropZ l else x :: l
theorem dropZ_zeros (n : Nat) (l : List Nat) : dropZ (List.replicate n 0 ++ l) = dropZ l := by
  induction n with
  | zero => rfl
  | succ n ih => rw [List.replicate_succ, List.cons_append, dropZ, if_pos rfl, ih]
theorem dropZ_le (l : List Nat) : (dropZ l).length ≤ l.length := by
  induction l with
  | nil => exact Nat.le_refl _
  | cons x l ih =>
    unfold dropZ
    split
    · simp only [List.length_cons]; omega
    · exact Nat.le_refl _
theorem small_dropZ {l : List Nat} (h : small l) : small (dropZ l) := by
  induction l with
  | nil => exact h
  | cons x l ih =>
    unfold dropZ
    split
    · exact ih (fun y hy => h y (List.mem_cons_of_mem _ hy))
    · exact h
/-- block by block; the error -/
def readG : Nat → List Blk → List Nat → List Blk × Nat
  | 0, out, _ => (out, 0)
  | n + 1, out, p =>
    if out.length = 512 ∨ (dropZ p).length = 0 then (out, 0)
    else if (dropZ p).getD 0 0 = 128 ∧ bytesN out.length (lastN out) + 4 ≤ (dropZ p).length ∧ (dropZ p).getD 1 0 = kindN out.length then
      if shortN ((dropZ p).take (bytesN out.length (lastN out) + 2)) = (dropZ p).getD (bytesN out.length (lastN out) + 2) 0 + 256 * (dropZ p).getD (bytesN out.length (lastN out) + 3) 0 then
        readG n (out ++ [(kindN out.length, ((dropZ p).take (bytesN out.length (lastN out) + 2)).drop 2)]) ((dropZ p).drop (bytesN out.length (lastN out) + 4))
      else ([], 3)
    else ([], 2)
theorem readG_succ (n : Nat) (out : List Blk) (p : List Nat) : readG (n + 1) out p = if out.length = 512 ∨ (dropZ p).length = 0 then (out, 0)
    else if (dropZ p).getD 0 0 = 128 ∧ bytesN out.length (lastN out) + 4 ≤ (dropZ p).length ∧ (dropZ p).getD 1 0 = kindN out.length then
      if shortN ((dropZ p).take (bytesN out.length (lastN out) + 2)) = (dropZ p).getD (bytesN out.length (lastN out) + 2) 0 + 256 * (dropZ p).getD (bytesN out.length (lastN out) + 3) 0 then
        readG n (out ++ [(kindN out.length, ((dropZ p).take (bytesN out.length (lastN out) + 2)).drop 2)]) ((dropZ p).drop (bytesN out.length (lastN out) + 4))
      else ([], 3)
    else ([], 2) := rfl
theorem rightN_snoc (l : List Blk) (b : Blk) : ∀ (i : Nat) (last : List Nat), rightN i last l = true → fits (i + l.length) (lastL last l) b → rightN i last (l ++ [b]) = true := by
  induction l with
  | nil => intro i last _ h; simp only [List.nil_append, rightN]; rw [if_pos (by simpa [lastL] using h)]
  | cons a l ih =>
    intro i last h hf
    unfold rightN at h
    rw [List.cons_append]
    unfold rightN
    by_cases c : fits i last a
    · rw [if_pos c] at h ⊢
      refine ih _ _ h ?_
      rw [show i + 1 + l.length = i + (a :: l).length by simp; omega]
      exact hf
    · rw [if_neg c] at h; cases h
/-- what was laid is read again -/
theorem readG_body (l : List Blk) : ∀ (n : Nat) (out : List Blk) (z : Nat), rightN out.length (lastN out) l = true → l.length < n → readG n out (List.replicate z 0 ++ bodyG l) = (out ++ l, 0) := by
  induction l with
  | nil =>
    intro n out z _ hn
    obtain ⟨n, rfl⟩ : ∃ m, n = m + 1 := ⟨n - 1, by simp at hn; omega⟩
    rw [readG_succ, if_pos (.inr (by rw [dropZ_zeros]; rfl)), List.append_nil]
  | cons b l ih =>
    intro n out z h hn
    obtain ⟨n, rfl⟩ : ∃ m, n = m + 1 := ⟨n - 1, by simp only [List.length_cons] at hn; omega⟩
    unfold rightN at h
    by_cases c : fits out.length (lastN out) b
    · rw [if_pos c] at h
      obtain ⟨c0, c1, c2⟩ := c
      have e0 : dropZ (List.replicate z 0 ++ bodyG (b :: l)) = 128 :: b.1 :: (b.2 ++ (sum2 (shortN (128 :: b.1 :: b.2)) ++ (List.replicate 120 0 ++ bodyG l))) := by
        rw [dropZ_zeros, bodyG_cons]
        simp [grooveB, dropZ]
      have hlt := shortN_lt (128 :: b.1 :: b.2)
      have et : (128 :: b.1 :: (b.2 ++ (sum2 (shortN (128 :: b.1 :: b.2)) ++ (List.replicate 120 0 ++ bodyG l)))).take (b.2.length + 2) = 128 :: b.1 :: b.2 := by
        rw [show b.2.length + 2 = (b.2.length + 1) + 1 from rfl, List.take_succ_cons, List.take_succ_cons, List.take_left']; rfl
      have ed : (128 :: b.1 :: (b.2 ++ (sum2 (shortN (128 :: b.1 :: b.2)) ++ (List.replicate 120 0 ++ bodyG l)))).drop (b.2.length + 4) = List.replicate 120 0 ++ bodyG l := by
        rw [show b.2.length + 4 = (b.2.length + 2 + 1) + 1 from rfl, List.drop_succ_cons, List.drop_succ_cons, List.drop_append, List.drop_of_length_le (by omega), List.nil_append, show b.2.length + 2 - b.2.length = 2 by omega]
        rfl
      have eg : ∀ j, (128 :: b.1 :: (b.2 ++ (sum2 (shortN (128 :: b.1 :: b.2)) ++ (List.replicate 120 0 ++ bodyG l)))).getD (b.2.length + 2 + j) 0 = (sum2 (shortN (128 :: b.1 :: b.2)) ++ (List.replicate 120 0 ++ bodyG l)).getD j 0 := by
        intro j
        rw [show b.2.length + 2 + j = (b.2.length + j) + 1 + 1 by omega, List.getD_cons_succ, List.getD_cons_succ, List.getD_eq_getElem?_getD, List.getElem?_append_right (by omega), show b.2.length + j - b.2.length = j by omega, ← List.getD_eq_getElem?_getD]
      have eg0 := eg 0
      have eg1 := eg 1
      rw [Nat.add_zero] at eg0
      have h1 := ih n (out ++ [(kindN out.length, b.2)]) 120 (by
        rw [lastN_eq, List.length_append, List.length_singleton]
        have : lastL [] (out ++ [(kindN out.length, b.2)]) = b.2 := by rw [← lastN_eq, lastN_snoc]
        rw [this]; exact h) (by simp only [List.length_cons] at hn; omega)
      rw [readG_succ, if_neg (by rw [e0]; simp <;> omega), e0, ← c2, if_pos ⟨rfl, by simp [sum2] <;> omega, c1⟩, et, eg0, show b.2.length + 3 = b.2.length + 2 + 1 from rfl, eg1]
      rw [if_pos (by simp [sum2] <;> omega), ed, show (128 :: b.1 :: b.2).drop 2 = b.2 from rfl, h1]
      simp [← c1]
    · rw [if_neg c] at h; cases h

/-! ### groove_Full -/
theorem full_ev (l : List Blk) (hl : sizeN l < 1000000000) (hll : l.length < 1000000) : Ev (fun k => groove_Full.f k (bs43 l)) ((fullG l : Nat) : Int) := by
  have hs := size_ev l (by omega) (by omega)
  unfold groove_Full.f
  refine Ev.bind (f := fun k t => _) hs (Ev.congr (fun k => ?_) (Ev.now _))
  rw [bs43_len, w64 (n := 3500 + _) (by omega) (by omega), w64 (n := (l.length : Int) * 123) (by omega) (by omega), w64 (by omega) (by omega)]
  unfold fullG
  first | rfl | (congr 1; omega)

/-! ### block_expects -/
theorem expects_f (i : Nat) (last : List Nat) (hs : small last) (ha : ahead i last) : block_expects.f (i : Int) (cst last) = some (if i < 512 then (((kindN i : Nat) : Int), ((bytesN i last : Nat) : Int)) else (0, 0)) := by
  have h0 := getD_small hs 12
  have h1 := getD_small hs 13
  have hm : Int.tmod (i : Int) 2 = ((i % 2 : Nat) : Int) := by rw [Int.tmod_eq_emod_of_nonneg (by omega)]; omega
  unfold block_expects.f kindN bytesN
  by_cases c : i < 512
  · rw [if_neg (by omega), if_pos c]
    by_cases c0 : i = 0
    · rw [if_pos (by omega), if_pos (by omega), if_pos c0, c0]; rfl
    by_cases c1 : i = 1
    · rw [if_neg (by omega), if_pos (by omega), if_pos (by omega), if_neg c0, if_pos c1, c1]; rfl
    rw [hm, if_neg (show ¬ (i : Int) = 0 by omega), if_neg (show ¬ (i : Int) = 1 by omega), if_neg (show ¬ i < 2 by omega), if_neg c0, if_neg c1]
    by_cases c2 : i % 2 = 0
    · rw [if_pos (by omega), if_pos c2, c2]; rfl
    · have hl := ha (by omega) (by omega)
      rw [if_neg (show ¬ ((i % 2 : Nat) : Int) = 0 by omega), if_neg c2, if_pos (by rw [cst_length]; omega), if_pos (by rw [cst_length]; omega), show i % 2 = 1 by omega]
      have e12 := rd_cst last 12
      have e13 := rd_cst last 13
      rw [show ((12 : Nat) : Int) = 12 from rfl] at e12
      rw [show ((13 : Nat) : Int) = 13 from rfl] at e13
      rw [e12, e13, w64 (n := ((last.getD 12 0 : Nat) : Int)) (by omega) (by omega), w64 (n := ((last.getD 13 0 : Nat) : Int)) (by omega) (by omega), w64 (by omega) (by omega)]
      have := bits_join_low .i64 63 (by decide) wraps_i64 8 ((last.getD 12 0 : Nat) : Int) (((last.getD 13 0 : Nat) : Int) * 256) (by omega) (by omega) (by omega) (by omega) (by omega) (by omega)
      rw [this]
      congr 2
      omega
  · rw [if_pos (by omega), if_neg c]

/-! ### block_Right -/
theorem right_l0 (l : List Blk) (hs : small2 l) (hl : l.length < 1000000000000) (d : Nat) : ∀ (i : Nat) (last : List Nat), i + d = l.length → small last → ahead i last →
    Ev (fun k => block_Right.l0 k (cst last) (bs43 l) (l.length : Int) (i : Int)) (rightN i last (l.drop i)) := by
  induction d with
  | zero =>
    intro i last hi _ _
    rw [List.drop_eq_nil_of_le (by omega)]
    refine Ev.step (f := fun _ => some true) (fun k => ?_) (Ev.now _)
    simp only [block_Right.l0]
    rw [if_neg (by omega)]
  | succ d ih =>
    intro i last hi hsl ha
    have hm := hs _ (getB_mem l i (by omega))
    rw [dropB l i (by omega)]
    generalize hb : l.getD i (0, []) = b at *
    have hk := kindN_lt i
    have hkp := kindN_pos i
    have hbl := bytesN_lt i hsl
    unfold rightN
    by_cases c : fits i last b
    · rw [if_pos c]
      refine Ev.step (f := fun k => block_Right.l0 k (cst b.2) (bs43 l) (l.length : Int) ((i + 1 : Nat) : Int)) (fun k => ?_) (ih (i + 1) b.2 (by omega) hm.2 (ahead_next c))
      simp only [block_Right.l0]
      rw [if_pos (by omega), if_pos (by omega), if_pos (by rw [bs43_len]; omega), expects_f i last hsl ha, rd43, hb]
      simp only [Option.bind_some, if_pos c.1, b43, cst_length]
      rw [if_pos (by rw [c.2.1]), if_pos (by rw [c.2.2]), if_neg (by omega), w64 (by omega) (by omega)]
      rfl
    · rw [if_neg c]
      refine Ev.step (f := fun _ => some false) (fun k => ?_) (Ev.now _)
      simp only [block_Right.l0]
      rw [if_pos (by omega), if_pos (by omega), if_pos (by rw [bs43_len]; omega), expects_f i last hsl ha, rd43, hb]
      simp only [Option.bind_some, b43, cst_length]
      unfold fits at c
      by_cases c0 : i < 512
      · simp only [if_pos c0]
        by_cases c1 : b.1 = kindN i
        · rw [if_pos (by rw [c1]), if_neg (fun h => c ⟨c0, c1, by omega⟩)]
        · rw [if_neg (by omega)]
      · simp only [if_neg c0]
        split
        · split
          · rfl
          · rfl
        · rfl
theorem right_ev (l : List Blk) (hs : small2 l) (hl : l.length < 1000000000000) : Ev (fun k => block_Right.f k (bs43 l)) (rightN 0 [] l) := by
  have := right_l0 l hs hl l.length 0 [] (by omega) (fun _ h => by cases h) (fun h => by omega)
  rw [List.drop_zero] at this
  unfold block_Right.f
  rw [bs43_len]
  exact this

/-! ### seal_Step -/
theorem shr_bit (b i : Nat) (hb : b < 256) (hi : i < 8) : Go.bits .and .u8 (shr .u8 (b : Int) (i : Int)) 1 = ((b / 2 ^ i % 2 : Nat) : Int) := by
  have e : shr .u8 (b : Int) (i : Int) = ((b / 2 ^ i : Nat) : Int) := by
    unfold shr
    rw [Int.toNat_natCast, show min i IntKind.u8.bits = i from by simp [IntKind.bits]; omega]
    exact_mod_cast rfl
  have hlt : b / 2 ^ i < 256 := Nat.lt_of_le_of_lt (Nat.div_le_self _ _) hb
  rw [e, and1_u8 _ hlt]
theorem step_one (s x : Nat) (hs : s < 65536) (hx : x < 2) : Go.bits .xor .u16 (Go.bits .or .u16 ((s : Int) / 2) (IntKind.u16.wrap ((IntKind.u16.wrap (x : Int)) * 32768))) (IntKind.u16.wrap (33800 * (Go.bits .and .u16 (s : Int) 1))) = ((Crc.G s x : Nat) : Int) := by
  rw [and1_u16 s hs, wu16 (n := (x : Int)) (by omega) (by omega), wu16 (n := (x : Int) * 32768) (by omega) (by omega)]
  have h2 : s % 2 = 0 ∨ s % 2 = 1 := by omega
  rw [wu16 (n := 33800 * _) (by omega) (by omega)]
  have eo : Go.bits .or .u16 ((s : Int) / 2) ((x : Int) * 32768) = ((s / 2 + 32768 * x : Nat) : Int) := by
    have := bits_join_low .u16 16 (by decide) wraps_u16 15 ((s : Int) / 2) ((x : Int) * 32768) (by omega) (by omega) (by omega) (by omega) (by omega) (by omega)
    rw [this]; omega
  rw [eo, show (33800 * ((s % 2 : Nat) : Int)) = ((33800 * (s % 2) : Nat) : Int) by omega, xor_u16 _ _ (by omega) (by omega)]
  rfl
theorem step_l0 (b : Nat) (hb : b < 256) (j : Nat) : ∀ s : Nat, s < 65536 → j ≤ 8 → Ev (fun k => seal_Step.l0 k (s : Int) (b : Int) ((8 - j : Nat) : Int)) ((Crc.gfeed s (Crc.bitsOf j (b / 2 ^ (8 - j))) : Nat) : Int) := by
  induction j with
  | zero =>
    intro s hs _
    refine Ev.step (f := fun _ => some (s : Int)) (fun k => ?_) (Ev.now _)
    simp only [seal_Step.l0]
    rw [if_neg (by omega)]
  | succ j ih =>
    intro s hs hj
    have hx : b / 2 ^ (8 - (j + 1)) % 2 < 2 := Nat.mod_lt _ (by decide)
    have h1 := ih (Crc.G s (b / 2 ^ (8 - (j + 1)) % 2)) (Crc.G_lt hs hx) (by omega)
    have e : b / 2 ^ (8 - (j + 1)) / 2 = b / 2 ^ (8 - j) := by
      rw [Nat.div_div_eq_div_mul, ← Nat.pow_succ, show (8 - (j + 1)).succ = 8 - j by omega]
    rw [Crc.bitsOf, e]
    refine Ev.step (f := fun k => seal_Step.l0 k ((Crc.G s (b / 2 ^ (8 - (j + 1)) % 2) : Nat) : Int) (b : Int) ((8 - j : Nat) : Int)) (fun k => ?_) h1
    simp only [seal_Step.l0]
    rw [if_pos (by omega), if_pos (by omega), shr_bit b _ hb (by omega), step_one s _ hs hx, w64 (by omega) (by omega)]
    congr 1
    omega
theorem step_ev (s b : Nat) (hs : s < 65536) (hb : b < 256) : Ev (fun k => seal_Step.f k (s : Int) (b : Int)) ((Crc.gfeed s (Crc.bitsOf 8 b) : Nat) : Int) := by
  have := step_l0 b hb 8 s hs (by omega)
  simpa [seal_Step.f] using this

/-! ### seal_Short -/
theorem short_l0 (ns : List Nat) (hn : small ns) (hl : ns.length ≤ 140737488351232) (d : Nat) : ∀ i s : Nat, i + d = ns.length → s < 65536 →
    Ev (fun k => seal_Short.l0 k (s : Int) (cst ns) (ns.length : Int) (i : Int)) ((Crc.gfeed s (bitsL (ns.drop i ++ [0, 0])) : Nat) : Int) := by
  induction d with
  | zero =>
    intro i s hi hs
    rw [List.drop_eq_nil_of_le (by omega), List.nil_append, bitsL_cons, bitsL_cons, Crc.gfeed_append, Crc.gfeed_append]
    have h1 := step_ev s 0 hs (by decide)
    have hs1 := Crc.gfeed_lt (Crc.bitsOf 8 0) s hs (Crc.bitsOf_lt 8 0)
    have h2 := step_ev _ 0 hs1 (by decide)
    refine Ev.step (f := fun k => (seal_Step.f k (s : Int) 0).bind fun t => (seal_Step.f k t 0).bind fun u => some u) (fun k => ?_) ?_
    · simp only [seal_Short.l0]
      rw [if_neg (by omega)]
    · refine Ev.bind (f := fun k t => (seal_Step.f k t 0).bind fun u => some u) h1 ?_
      exact Ev.bind (f := fun _ u => some u) h2 (Ev.now _)
  | succ d ih =>
    intro i s hi hs
    have hb := getD_small hn i
    rw [drop_getD ns i (by omega), List.cons_append, bitsL_cons, Crc.gfeed_append]
    have hs1 := Crc.gfeed_lt (Crc.bitsOf 8 (ns.getD i 0)) s hs (Crc.bitsOf_lt 8 _)
    have h1 := ih (i + 1) _ (by omega) hs1
    refine Ev.step (f := fun k => (seal_Step.f k (s : Int) ((ns.getD i 0 : Nat) : Int)).bind fun t => seal_Short.l0 k t (cst ns) (ns.length : Int) ((i + 1 : Nat) : Int)) (fun k => ?_) ?_
    · simp only [seal_Short.l0]
      rw [if_pos (by omega), if_pos (by omega), if_pos (by rw [cst_length]; omega), rd_cst, w64 (by omega) (by omega)]
      rfl
    · exact Ev.bind (f := fun k t => seal_Short.l0 k t (cst ns) (ns.length : Int) ((i + 1 : Nat) : Int)) (step_ev s _ hs hb) h1
theorem short_ev (ns : List Nat) (hn : small ns) (hl : ns.length ≤ 140737488351232) : Ev (fun k => seal_Short.f k (cst ns)) ((shortN ns : Nat) : Int) := by
  have := short_l0 ns hn hl ns.length 0 32768 (by omega) (by omega)
  unfold seal_Short.f
  rw [cst_length]
  exact this

/-! ### groove_Lay -/
theorem layg_l0 (l : List Blk) (hs : small2 l) (hl : sizeN l < 1000000000) (hll : l.length < 1000000) (d : Nat) : ∀ i : Nat, i + d = l.length →
    Ev (fun k => groove_Lay.l0 k (cst (layG (l.take i))) (bs43 l) (l.length : Int) (i : Int)) (cst (layG l), true) := by
  induction d with
  | zero =>
    intro i hi
    rw [List.take_of_length_le (by omega)]
    refine Ev.step (f := fun _ => some (cst (layG l), true)) (fun k => ?_) (Ev.now _)
    simp only [groove_Lay.l0]
    rw [if_neg (by omega)]
  | succ d ih =>
    intro i hi
    have h1 := ih (i + 1) (by omega)
    have hm := hs _ (getB_mem l i (by omega))
    have hz := sizeN_take l i (by omega)
    have hzl := sizeN_le l (i + 1)
    have hll2 := layG_len (l.take i)
    unfold fullG at hll2
    have htl : (l.take i).length ≤ i := List.length_take_le _ _
    have e : layG (l.take (i + 1)) = layG (l.take i) ++ grooveB (l.getD i (0, [])) := by
      rw [takeB l i (by omega)]
      unfold layG
      rw [bodyG_append, ← List.append_assoc, show bodyG [l.getD i (0, [])] = grooveB (l.getD i (0, [])) by simp [bodyG]]
    generalize hb : l.getD i (0, []) = b at *
    have hlt := shortN_lt (128 :: b.1 :: b.2)
    have hsm : small (128 :: b.1 :: b.2) := by
      intro x hx
      rcases List.mem_cons.1 hx with rfl | hx
      · decide
      rcases List.mem_cons.1 hx with rfl | hx
      · exact hm.1
      · exact hm.2 x hx
    have hsh := short_ev (128 :: b.1 :: b.2) hsm (by simp only [List.length_cons]; omega)
    rw [e] at h1
    generalize layG (l.take i) = pre at *
    refine Ev.step (f := fun k => (seal_Short.f k (cst (128 :: b.1 :: b.2))).bind fun t128 => (if (cst pre).length + (cst (128 :: b.1 :: b.2)).length < 140737488355328 then ((some (cst pre ++ cst (128 :: b.1 :: b.2) : List Int)).bind fun y129 => ((some (([(t128) % 256, (t128 / 256) % 256] : List Int) : List Int)).bind fun y132 => (if y129.length + y132.length < 140737488355328 then ((some (y129 ++ y132 : List Int)).bind fun y135 => (if y135.length + 120 < 140737488355328 then (groove_Lay.l0 k (y135 ++ List.replicate 120 0) (bs43 l) (l.length : Int) ((i + 1 : Nat) : Int)) else (none))) else (none)))) else (none))) (fun k => ?_) ?_
    · simp only [groove_Lay.l0]
      rw [if_pos (by omega), if_pos (by omega), if_pos (by rw [bs43_len]; omega), rd43, hb]
      simp only [b43, Option.bind_some]
      rw [if_pos (by rw [cst_length]; simp; omega), w64 (by omega) (by omega)]
      rw [show ([128, (b.1 : Int)] ++ cst b.2 : List Int) = cst (128 :: b.1 :: b.2) from rfl]
      rfl
    · refine Ev.bind (f := fun k t => _) hsh ?_
      refine Ev.congr (f := fun k => groove_Lay.l0 k (cst (pre ++ grooveB b)) (bs43 l) (l.length : Int) ((i + 1 : Nat) : Int)) (fun k => ?_) h1
      have hcl : (cst pre).length = pre.length := cst_length _
      have hcl2 : (cst (128 :: b.1 :: b.2)).length = b.2.length + 2 := by rw [cst_length]; rfl
      rw [if_pos (by omega)]
      simp only [Option.bind_some]
      rw [if_pos (by simp only [List.length_append, List.length_cons, List.length_nil]; omega), if_pos (by simp only [List.length_append, List.length_cons, List.length_nil]; omega)]
      congr 1
      have e2 : [((shortN (128 :: b.1 :: b.2) : Nat) : Int) % 256, ((shortN (128 :: b.1 :: b.2) : Nat) : Int) / 256 % 256] = cst (sum2 (shortN (128 :: b.1 :: b.2))) := by
        simp only [sum2, cst, List.map_cons, List.map_nil, List.cons.injEq, and_true]
        omega
      rw [e2, show (List.replicate 120 (0 : Int)) = cst (List.replicate 120 0) by simp [cst], ← cst_append, ← cst_append, ← cst_append]
      simp [grooveB]
theorem layg_ev (l : List Blk) (hs : small2 l) (hr : rightN 0 [] l = true) (hl : fullG l ≤ 65536) : Ev (fun k => groove_Lay.f k (bs43 l)) (cst (layG l), true) := by
  unfold fullG at hl
  have h1 := right_ev l hs (by omega)
  have h2 := full_ev l (by omega) (by omega)
  have h3 := layg_l0 l hs (by omega) (by omega) l.length 0 (by omega)
  rw [List.take_zero] at h3
  rw [hr] at h1
  unfold groove_Lay.f
  refine Ev.bind (f := fun k t => _) h1 ?_
  simp only [if_true]
  refine Ev.bind (f := fun k t => _) h2 ?_
  have hd : decide (((fullG l : Nat) : Int) > 65536) = false := decide_eq_false (by unfold fullG; omega)
  rw [hd]
  refine Ev.step (f := fun k => (groove_Full.f k (bs43 l)).bind fun t116 => (if 3500 ≤ t116 then (if (t116 : Int).toNat ≤ 281474976710656 then (groove_Lay.l0 k (List.replicate 3500 0) (bs43 l) ((bs43 l).length : Int) 0) else (none)) else (none))) (fun k => ?_) ?_
  · simp only [groove_Lay.j0]
    rfl
  · refine Ev.bind (f := fun k t => _) h2 ?_
    refine Ev.congr (fun k => ?_) h3
    rw [if_pos (by unfold fullG; omega), if_pos (by unfold fullG; omega), bs43_len, show cst (layG []) = List.replicate 3500 0 from by unfold layG cst bodyG; rw [List.flatMap_nil, List.append_nil, List.map_replicate]; rfl]
    rfl
theorem layg_no (l : List Blk) (hs : small2 l) (hr : rightN 0 [] l = true) (hz : sizeN l < 1000000) (hll : l.length < 1000000) (hl : 65536 < fullG l) : Ev (fun k => groove_Lay.f k (bs43 l)) (([] : List Int), false) := by
  have h1 := right_ev l hs (by omega)
  have h2 := full_ev l (by omega) (by omega)
  rw [hr] at h1
  unfold groove_Lay.f
  refine Ev.bind (f := fun k t => _) h1 ?_
  simp only [if_true]
  refine Ev.bind (f := fun k t => _) h2 ?_
  have hd : decide (((fullG l : Nat) : Int) > 65536) = true := decide_eq_true (by omega)
  rw [hd]
  refine Ev.step (f := fun k => some (([] : List Int), false)) (fun k => ?_) (Ev.now _)
  simp only [groove_Lay.j0]
  rfl

/-! ### files05 -/
/-- a file's head tells its size -/
def tells (h d : List Nat) : Prop := h.length = 15 ∧ small h ∧ small d ∧ h.getD 12 0 + 256 * h.getD 13 0 = d.length
def pairsOf : List (List Nat × List Nat) → List Blk
  | [] => []
  | x :: l => (3, x.1) :: (4, x.2) :: pairsOf l
theorem pairsOf_len (l : List (List Nat × List Nat)) : (pairsOf l).length = 2 * l.length := by
  induction l with
  | nil => rfl
  | cons x l ih => simp only [pairsOf, List.length_cons, ih]; omega
theorem pairsOf_snoc (l : List (List Nat × List Nat)) (x : List Nat × List Nat) : pairsOf (l ++ [x]) = pairsOf l ++ [(3, x.1), (4, x.2)] := by
  induction l with
  | nil => rfl
  | cons y l ih => simp [pairsOf, ih]
theorem pairsOf_small (l : List (List Nat × List Nat)) (h : ∀ x ∈ l, tells x.1 x.2) : small2 (pairsOf l) := by
  induction l with
  | nil => intro b hb; cases hb
  | cons x l ih =>
    have hx := h x List.mem_cons_self
    intro b hb
    rcases List.mem_cons.1 hb with rfl | hb
    · exact ⟨by show 3 < 256; decide, hx.2.1⟩
    rcases List.mem_cons.1 hb with rfl | hb
    · exact ⟨by show 4 < 256; decide, hx.2.2.1⟩
    · exact ih (fun y hy => h y (List.mem_cons_of_mem _ hy)) b hb
theorem pairsOf_right (l : List (List Nat × List Nat)) : ∀ (i : Nat) (last : List Nat), (∀ x ∈ l, tells x.1 x.2) → 2 ≤ i → i % 2 = 0 → i + 2 * l.length ≤ 512 → rightN i last (pairsOf l) = true := by
  induction l with
  | nil => intro i last _ _ _ _; rfl
  | cons x l ih =>
    intro i last h h2 he hl
    have hx := h x List.mem_cons_self
    simp only [List.length_cons] at hl
    simp only [pairsOf, rightN]
    have f1 : fits i last (3, x.1) := ⟨by omega, by unfold kindN; rw [if_neg (by omega)]; simp only; omega, by unfold bytesN; rw [if_neg (by omega), if_neg (by omega), if_pos he]; exact hx.1⟩
    have f2 : fits (i + 1) x.1 (4, x.2) := ⟨by omega, by unfold kindN; rw [if_neg (by omega)]; simp only; omega, by unfold bytesN; rw [if_neg (by omega), if_neg (by omega), if_neg (by omega)]; exact hx.2.2.2.symm⟩
    rw [if_pos f1, if_pos f2]
    exact ih (i + 1 + 1) x.2 (fun y hy => h y (List.mem_cons_of_mem _ hy)) (by omega) (by omega) (by omega)
theorem rightN_take (l : List Blk) : ∀ (i : Nat) (last : List Nat) (n : Nat), rightN i last l = true → rightN i last (l.take n) = true := by
  induction l with
  | nil => intro i last n _; simp [rightN]
  | cons b l ih =>
    intro i last n h
    cases n with
    | zero => rfl
    | succ n =>
      unfold rightN at h
      rw [List.take_succ_cons]
      unfold rightN
      by_cases c : fits i last b
      · rw [if_pos c] at h ⊢
        exact ih _ _ _ h
      · rw [if_neg c] at h; cases h
/-- a side: the first two blocks, and files -/
def sideN (hd : List Nat) (l : List (List Nat × List Nat)) : List Blk := (1, hd) :: (2, [l.length % 256]) :: pairsOf l
theorem sideN_right (hd : List Nat) (hh : hd.length = 55) (l : List (List Nat × List Nat)) (h : ∀ x ∈ l, tells x.1 x.2) (hl : l.length ≤ 255) : rightN 0 [] (sideN hd l) = true := by
  simp only [sideN, rightN]
  rw [if_pos (show fits 0 [] (1, hd) from ⟨by decide, rfl, hh⟩), if_pos (show fits (0 + 1) hd (2, [l.length % 256]) from ⟨by decide, rfl, rfl⟩)]
  exact pairsOf_right l 2 _ h (by omega) (by omega) (by omega)
theorem sideN_small (hd : List Nat) (hs : small hd) (l : List (List Nat × List Nat)) (h : ∀ x ∈ l, tells x.1 x.2) : small2 (sideN hd l) := by
  intro b hb
  rcases List.mem_cons.1 hb with rfl | hb
  · exact ⟨by show 1 < 256; decide, hs⟩
  rcases List.mem_cons.1 hb with rfl | hb
  · exact ⟨by show 2 < 256; decide, fun x hx => by rw [List.mem_singleton.1 hx]; exact Nat.mod_lt _ (by decide)⟩
  · exact pairsOf_small l h b hb
theorem sideN_len (hd : List Nat) (l : List (List Nat × List Nat)) : (sideN hd l).length = 2 + 2 * l.length := by simp only [sideN, List.length_cons, pairsOf_len]; omega
theorem sideN_size (hd : List Nat) (hh : hd.length = 55) (l : List (List Nat × List Nat)) (h : ∀ x ∈ l, tells x.1 x.2) : sizeN (sideN hd l) = 58 + 17 * l.length + (l.map fun x => x.2.length).sum := by
  have e : sizeN (sideN hd l) = (1 + hd.length) + ((1 + 1) + sizeN (pairsOf l)) := by simp [sideN, sizeN]
  have e2 : sizeN (pairsOf l) = 17 * l.length + (l.map fun x => x.2.length).sum := by
    clear e
    induction l with
    | nil => rfl
    | cons x l ih =>
      have hx := (h x List.mem_cons_self).1
      have e3 : sizeN (pairsOf (x :: l)) = (1 + x.1.length) + ((1 + x.2.length) + sizeN (pairsOf l)) := by simp [pairsOf, sizeN]
      rw [e3, ih (fun y hy => h y (List.mem_cons_of_mem _ hy)), hx]
      simp only [List.length_cons, List.map_cons, List.sum_cons]
      omega
  rw [e, e2, hh]; omega
/-- the side's blocks by block.Disk -/
theorem side_f (s : ByteArray) (side : Nat) (hside : side < 256) (l : List (List Nat × List Nat)) (hl : l.length ≤ 1000) :
    ∃ hd, block_Disk.f s (side : Int) (l.map fun x => bs43 [(3, x.1), (4, x.2)]) = some (bs43 (sideN hd l)) ∧ small hd ∧ hd.length = 55 ∧ cst hd = block_Disk.head s (side : Int) := by
  obtain ⟨hd, e, hs, hh⟩ := head_cst s side hside
  have hsum : ((l.map fun x => bs43 [(3, x.1), (4, x.2)]).map List.length).sum = 2 * l.length := by
    clear hl
    induction l with
    | nil => rfl
    | cons x l ih => simp only [List.map_cons, List.sum_cons, ih, List.length_cons, bs43_len]; simp; omega
  have hfl : (l.map fun x => bs43 [(3, x.1), (4, x.2)]).flatten = bs43 (pairsOf l) := by
    clear hl hsum
    induction l with
    | nil => rfl
    | cons x l ih => rw [List.map_cons, List.flatten_cons, ih]; rfl
  have hdk := disk_f s (side : Int) (l.map fun x => bs43 [(3, x.1), (4, x.2)]) (by rw [hsum]; omega) (by rw [List.length_map]; omega)
  refine ⟨hd, ?_, hs, hh, e.symm⟩
  rw [hdk, hfl, e, List.length_map]
  simp [bs43, b43, cst, sideN]

/-! ### kotatsulaw07_awake -/
theorem awake_ev : Ev (fun k => kotatsulaw07_awake.f k) true := by
  obtain ⟨hd, e, hs, hh, _⟩ := side_f (⟨#[]⟩ : ByteArray) 0 (by decide) [] (by simp)
  have hsz := sideN_size hd hh [] (fun x hx => by cases hx)
  have hlen := sideN_len hd []
  simp only [List.length_nil, List.map_nil, List.sum_nil] at hsz hlen
  have hfull : fullG (sideN hd []) = 3804 := by unfold fullG; omega
  have hl := layg_ev (sideN hd []) (sideN_small hd hs [] (fun x hx => by cases hx)) (sideN_right hd hh [] (fun x hx => by cases hx) (by simp)) (by omega)
  have hll := layG_len (sideN hd [])
  have g : ∀ j, j < 3500 → (layG (sideN hd [])).getD j 0 = 0 := by
    intro j hj
    unfold layG
    rw [List.getD_eq_getElem?_getD, List.getElem?_append_left (by rw [List.length_replicate]; exact hj), List.getElem?_replicate, if_pos hj]; rfl
  have g2 : ∀ j, (layG (sideN hd [])).getD (3500 + j) 0 = (bodyG (sideN hd [])).getD j 0 := by
    intro j
    unfold layG
    rw [List.getD_eq_getElem?_getD, List.getElem?_append_right (by rw [List.length_replicate]; omega), List.length_replicate, show 3500 + j - 3500 = j by omega, ← List.getD_eq_getElem?_getD]
  have g0 : (layG (sideN hd [])).getD 3500 0 = 128 := (g2 0).trans rfl
  have g1 : (layG (sideN hd [])).getD 3501 0 = 1 := (g2 1).trans rfl
  have r1 := rd_cst (layG (sideN hd [])) 3499
  have r2 := rd_cst (layG (sideN hd [])) 3500
  have r3 := rd_cst (layG (sideN hd [])) 3501
  rw [g 3499 (by decide)] at r1
  rw [g0] at r2
  rw [g1] at r3
  unfold kotatsulaw07_awake.f
  have e2 : block_Disk.f (⟨#[]⟩ : ByteArray) 0 ([] : List (List (S53))) = some (bs43 (sideN hd [])) := e
  rw [e2]
  simp only [Option.bind_some]
  refine Ev.bind (f := fun k bt => _) hl ?_
  have hcl : ((cst (layG (sideN hd []))).length : Int) = 3804 := by rw [cst_length, hll, hfull]; rfl
  refine Ev.congr (fun k => ?_) (Ev.now true)
  simp only [if_true, hcl]
  rw [show rd (cst (layG (sideN hd []))) 3499 = 0 from r1, show rd (cst (layG (sideN hd []))) 3500 = 128 from r2, show rd (cst (layG (sideN hd []))) 3501 = 1 from r3]
  simp

/-! ### kotatsuref01_Cut -/
theorem cut_l0 (l : List Int) (m : Nat) (hm : m < 100000) (hl : l.length ≤ 9223372036854775807) (d : Nat) : ∀ i : Nat, i + d = l.length → Ev (fun k => kotatsuref01_Cut.l0 k (m : Int) ((l.take i).take m) l (l.length : Int) (i : Int)) (l.take m) := by
  induction d with
  | zero =>
    intro i hi
    refine Ev.step (f := fun _ => some (l.take m)) (fun k => ?_) (Ev.now _)
    simp only [kotatsuref01_Cut.l0]
    rw [if_neg (by omega), List.take_of_length_le (show l.length ≤ i by omega)]
  | succ d ih =>
    intro i hi
    have hn := ih (i + 1) (by omega)
    have hlen : ((l.take i).take m).length ≤ i := by simp only [List.length_take]; omega
    have hget : l.take (i + 1) = l.take i ++ [rd l (i : Int)] := by
      unfold rd
      rw [List.take_succ_eq_append_getElem (by omega), List.getD_eq_getElem?_getD, Int.toNat_natCast, List.getElem?_eq_getElem (by omega)]; rfl
    by_cases c : i < m
    · refine Ev.step (f := fun k => kotatsuref01_Cut.l0 k (m : Int) ((l.take (i + 1)).take m) l (l.length : Int) ((i + 1 : Nat) : Int)) (fun k => ?_) hn
      simp only [kotatsuref01_Cut.l0]
      rw [if_pos (by omega), if_pos (by omega), if_pos (by omega), if_pos (by omega), if_pos (by omega), w64 (by omega) (by omega)]
      have e : (l.take (i + 1)).take m = (l.take i).take m ++ [rd l (i : Int)] := by
        rw [hget, List.take_append, List.take_of_length_le (l := [rd l (i : Int)]) (by simp only [List.length_take, List.length_cons, List.length_nil]; omega)]
      rw [e]; rfl
    · refine Ev.step (f := fun k => kotatsuref01_Cut.l0 k (m : Int) ((l.take (i + 1)).take m) l (l.length : Int) ((i + 1 : Nat) : Int)) (fun k => ?_) hn
      simp only [kotatsuref01_Cut.l0]
      rw [if_pos (by omega), if_pos (by omega), if_pos (by omega), if_neg (by omega), w64 (by omega) (by omega)]
      have e : (l.take (i + 1)).take m = (l.take i).take m := by
        rw [List.take_take, List.take_take]; congr 1; omega
      rw [e]; rfl
theorem cut_ev (l : List Int) (m : Nat) (hm : m < 100000) (hl : l.length ≤ 9223372036854775807) : Ev (fun k => kotatsuref01_Cut.f k l (m : Int)) (l.take m) := by
  have := cut_l0 l m hm hl l.length 0 (by omega)
  simpa [kotatsuref01_Cut.f] using this

/-! ### kotatsuref01_Join -/
theorem join_l0 (L : List (List Int)) (hl : L.length < 1000000000) (hsum : L.flatten.length < 140737488355328) (d : Nat) : ∀ i : Nat, i + d = L.length →
    Ev (fun k => kotatsuref01_Join.l0 k (L.take i).flatten L (L.length : Int) (i : Int)) L.flatten := by
  induction d with
  | zero =>
    intro i hi
    rw [List.take_of_length_le (by omega)]
    refine Ev.step (f := fun _ => some L.flatten) (fun k => ?_) (Ev.now _)
    simp only [kotatsuref01_Join.l0]
    rw [if_neg (by omega)]
  | succ d ih =>
    intro i hi
    have e : (L.take (i + 1)).flatten = (L.take i).flatten ++ rd_L1 L (i : Int) := by
      rw [List.take_succ_eq_append_getElem (by omega), List.flatten_append]
      unfold rd_L1
      rw [List.getD_eq_getElem?_getD, Int.toNat_natCast, List.getElem?_eq_getElem (by omega)]
      simp
    have hle : ((L.take (i + 1)).flatten).length ≤ L.flatten.length := by
      have : L.flatten = (L.take (i + 1)).flatten ++ (L.drop (i + 1)).flatten := by rw [← List.flatten_append, List.take_append_drop]
      rw [this, List.length_append]; omega
    rw [e, List.length_append] at hle
    have h1 := ih (i + 1) (by omega)
    rw [e] at h1
    refine Ev.step (f := fun k => kotatsuref01_Join.l0 k ((L.take i).flatten ++ rd_L1 L (i : Int)) L (L.length : Int) ((i + 1 : Nat) : Int)) (fun k => ?_) h1
    simp only [kotatsuref01_Join.l0]
    rw [if_pos (by omega), if_pos (by omega), if_pos (by omega), if_pos (by omega), w64 (by omega) (by omega)]
    rfl
theorem join_ev (L : List (List Int)) (hl : L.length < 1000000000) (hsum : L.flatten.length < 140737488355328) : Ev (fun k => kotatsuref01_Join.f k L) L.flatten := by
  have := join_l0 L hl hsum L.length 0 (by omega)
  simpa [kotatsuref01_Join.f] using this

/-! ### bytes_Clone -/
theorem clone_f (l : List Int) (h : l.length ≤ 140737488355328) : bytes_Clone.f l = some l := by
  unfold bytes_Clone.f
  rw [if_pos h]

/-! ### kotatsuref01_Same -/
theorem same_l0 (a b : List Int) (hl : a.length = b.length) (hm : a.length ≤ 140737488355328) (d : Nat) : ∀ i : Nat, i + d = a.length →
    Ev (fun k => kotatsuref01_Same.l0 k a b (a.length : Int) (i : Int)) (decide (a.drop i = b.drop i)) := by
  induction d with
  | zero =>
    intro i hi
    rw [List.drop_eq_nil_of_le (by omega), List.drop_eq_nil_of_le (by omega)]
    refine Ev.step (f := fun _ => some true) (fun k => ?_) (Ev.now _)
    simp only [kotatsuref01_Same.l0]
    rw [if_neg (by omega)]
  | succ d ih =>
    intro i hi
    have ha : a.drop i = rd a (i : Int) :: a.drop (i + 1) := by
      unfold rd
      rw [List.drop_eq_getElem_cons (by omega), List.getD_eq_getElem?_getD, Int.toNat_natCast, List.getElem?_eq_getElem (by omega)]; rfl
    have hb : b.drop i = rd b (i : Int) :: b.drop (i + 1) := by
      unfold rd
      rw [List.drop_eq_getElem_cons (by omega), List.getD_eq_getElem?_getD, Int.toNat_natCast, List.getElem?_eq_getElem (by omega)]; rfl
    by_cases c : rd a (i : Int) = rd b (i : Int)
    · have h1 := ih (i + 1) (by omega)
      have e : decide (a.drop i = b.drop i) = decide (a.drop (i + 1) = b.drop (i + 1)) := by
        rw [ha, hb, c]; simp
      rw [e]
      refine Ev.step (f := fun k => kotatsuref01_Same.l0 k a b (a.length : Int) ((i + 1 : Nat) : Int)) (fun k => ?_) h1
      simp only [kotatsuref01_Same.l0]
      rw [if_pos (by omega), if_pos (by omega), if_pos (by omega), if_pos (by omega), if_pos c, w64 (by omega) (by omega)]
      rfl
    · have e : decide (a.drop i = b.drop i) = false := by
        rw [ha, hb]; simp [c]
      rw [e]
      refine Ev.step (f := fun _ => some false) (fun k => ?_) (Ev.now _)
      simp only [kotatsuref01_Same.l0]
      rw [if_pos (by omega), if_pos (by omega), if_pos (by omega), if_pos (by omega), if_neg c]
theorem same_ev (a b : List Int) (hm : a.length ≤ 140737488355328) : Ev (fun k => kotatsuref01_Same.f k a b) (decide (a = b)) := by
  unfold kotatsuref01_Same.f
  by_cases c : a.length = b.length
  · have := same_l0 a b c hm a.length 0 (by omega)
    refine Ev.congr (fun k => ?_) this
    rw [if_pos (by omega)]
    rfl
  · have e : decide (a = b) = false := decide_eq_false (fun h => c (by rw [h]))
    rw [e]
    refine Ev.congr (fun k => ?_) (Ev.now _)
    rw [if_neg (by omega)]

theorem patch_no (l0 l2 : List Int) (a1 : Int) (h0 : l0.length ≤ 60) : Ev (fun k => kotatsulaw07_GroovePatches.j0 k l0 a1 l2 l0 [] false false) true := by
  have hs := same_ev l0 l0 (by omega)
  rw [decide_eq_true rfl] at hs
  refine Ev.step (f := fun k => (kotatsuref01_Same.f k l0 l0).bind fun t178 => (kotatsulaw07_GroovePatches.j1 k l0 a1 l2 [] false (!t178))) (fun k => ?_) (Ev.bind (f := fun k t => _) hs ?_)
  · conv => lhs; unfold kotatsulaw07_GroovePatches.j0
    exact if_neg (by decide)
  · refine Ev.step (f := fun _ => some true) (fun k => ?_) (Ev.now _)
    conv => lhs; unfold kotatsulaw07_GroovePatches.j1
    simp
theorem patch_yes (l0 l2 : List Int) (m : Nat) (h0 : l0.length ≤ 60) (hf : m + l2.length ≤ l0.length) : Ev (fun k => kotatsulaw07_GroovePatches.j0 k l0 (m : Int) l2 l0 (H.spl l0 m l2) true true) true := by
  have hs := same_ev l0 l0 (by omega)
  rw [decide_eq_true rfl] at hs
  have hsl := H.spl_length l0 l2 m hf
  have efl : [l0.take m, l2, l0.drop (m + l2.length)].flatten = H.spl l0 m l2 := by unfold H.spl; simp
  have hj := join_ev [l0.take m, l2, l0.drop (m + l2.length)] (by simp) (by rw [efl, hsl]; omega)
  rw [efl] at hj
  have hs2 := same_ev (H.spl l0 m l2) (H.spl l0 m l2) (by omega)
  rw [decide_eq_true rfl] at hs2
  have hw : wrap64 ((m : Int) + (l2.length : Int)) = ((m + l2.length : Nat) : Int) := by rw [w64 (by omega) (by omega)]; omega
  refine Ev.step (f := fun k => (kotatsuref01_Same.f k l0 l0).bind fun t178 => (kotatsulaw07_GroovePatches.j1 k l0 (m : Int) l2 (H.spl l0 m l2) true (!t178))) (fun k => ?_) (Ev.bind (f := fun k t => _) hs ?_)
  · conv => lhs; unfold kotatsulaw07_GroovePatches.j0
    exact if_neg (by decide)
  · refine Ev.step (f := fun k => (kotatsuref01_Join.f k [l0.take m, l2, l0.drop (m + l2.length)]).bind fun t192 => ((kotatsuref01_Same.f k (H.spl l0 m l2) t192).bind fun t195 => (some t195))) (fun k => ?_) (Ev.bind (f := fun k t => _) hj ?_)
    · conv => lhs; unfold kotatsulaw07_GroovePatches.j1
      simp only [hw]
      clear hw
      rw [if_neg (by decide), if_pos trivial, if_pos (by omega), if_pos (by omega), if_pos (by omega), if_pos (by omega), Int.toNat_natCast, Int.toNat_natCast]
    · exact Ev.bind (f := fun k t => some t) hs2 (Ev.now _)
theorem GroovePatches : kotatsulaw07_GroovePatches.Pure := by
  intro l0 a1 l2 _ hl0 _ ha _ hl2 _
  simp [Lit.wf, IntKind.min, IntKind.max, IntKind.signed, IntKind.bits] at ha
  have hc0 := cut_ev l0 60 (by decide) (by omega)
  have hc2 := cut_ev l2 30 (by decide) (by omega)
  have h60 : (l0.take 60).length ≤ 60 := by rw [List.length_take]; omega
  have h30 : (l2.take 30).length ≤ 30 := by rw [List.length_take]; omega
  generalize l0.take 60 = p at *
  generalize l2.take 30 = d at *
  have hj := join_ev [p] (by simp) (by simp; omega)
  rw [show [p].flatten = p by simp] at hj
  refine Ev.rounds (Ev.bind (f := fun k t => if t = true then _ else _) awake_ev ?_)
  simp only [if_true]
  refine Ev.bind (f := fun k t => _) hc0 ?_
  refine Ev.bind (f := fun k t => _) hc2 ?_
  refine Ev.bind (f := fun k t => _) hj ?_
  by_cases c1 : a1 < 0
  · have e : groove_Patch.f p a1 d = some ([], false) := by
      unfold groove_Patch.f
      rw [if_pos (by omega), if_pos c1]
    refine Ev.congr (fun k => ?_) (patch_no p d a1 h60)
    rw [e, Option.bind_some, if_neg (by omega)]
  by_cases c2 : (p.length : Int) < a1
  · have e : groove_Patch.f p a1 d = some ([], false) := by
      unfold groove_Patch.f
      rw [if_pos (by omega), if_neg c1, if_pos c2]
    refine Ev.congr (fun k => ?_) (patch_no p d a1 h60)
    rw [e, Option.bind_some, if_pos (by omega), if_neg (by omega)]
  have hw : wrap64 ((p.length : Int) - a1) = (p.length : Int) - a1 := w64 (by omega) (by omega)
  by_cases c3 : (p.length : Int) - a1 < (d.length : Int)
  · have e : groove_Patch.f p a1 d = some ([], false) := by
      unfold groove_Patch.f
      rw [if_pos (by omega), if_neg c1, if_neg c2, if_pos (by rw [hw]; exact c3)]
    refine Ev.congr (fun k => ?_) (patch_no p d a1 h60)
    rw [e, Option.bind_some, if_pos (by omega), if_pos (by omega), hw, decide_eq_false (by omega)]
  · have e : groove_Patch.f p a1 d = some (H.spl p a1.toNat d, true) := by
      unfold groove_Patch.f
      rw [if_pos (by omega), if_neg c1, if_neg c2, if_neg (by rw [hw]; exact c3)]
    obtain ⟨m, rfl⟩ := Int.eq_ofNat_of_zero_le (show 0 ≤ a1 by omega)
    rw [Int.toNat_natCast] at e
    refine Ev.congr (fun k => ?_) (patch_yes p d m h60 (by omega))
    rw [e, Option.bind_some, if_pos (by omega), if_pos (by omega), hw, decide_eq_true (by omega)]

end Go.Proofs.Ytgahcipgglkkhaa.Pure
