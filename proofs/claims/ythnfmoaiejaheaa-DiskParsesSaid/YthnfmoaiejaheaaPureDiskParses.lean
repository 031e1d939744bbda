/- DiskParses: any bytes are the document's set, or none; its bytes are the same again: for every input. No condition. -/
import Derived.Test.YthnfmoaiejaheaaPDiskParsesx5
import Derived.Test.YthnfmoaiejaheaaU
namespace Go.Proofs.Ythnfmoaiejaheaa.Pure
open Go.RowKit Go.Proofs.Ythnfmoaiejaheaa.PDiskParses Go.Proofs.Ythnfmoaiejaheaa.U Go.Proofs.YthnfmoaiejaheaaW.PrintWords Go.Proofs.YthnfmoaiejaheaaW.PrintLast Go.Proofs.YthnfmoaiejaheaaW.PrintMore
set_option linter.unusedVariables false
set_option linter.unusedSimpArgs false

/-! ### disk_each -/
def okB (p : List Int) : Prop := ∀ x ∈ p, 0 ≤ x ∧ x < 256
theorem okB_of {p : List Int} (h : ∀ x ∈ p, (Lit.int .u8 x).wf = true) : okB p := fun x hx => by
  have := h x hx
  simp [Lit.wf, IntKind.min, IntKind.max, IntKind.signed, IntKind.bits] at this
  omega
theorem okB_append {a b : List Int} (ha : okB a) (hb : okB b) : okB (a ++ b) := fun x hx => (List.mem_append.1 hx).elim (ha x) (hb x)
theorem okB_take {a : List Int} (ha : okB a) (n : Nat) : okB (a.take n) := fun x hx => ha x (List.mem_of_mem_take hx)
theorem okB_drop {a : List Int} (ha : okB a) (n : Nat) : okB (a.drop n) := fun x hx => ha x (List.mem_of_mem_drop hx)
theorem okB_zeros (n : Nat) : okB (List.replicate n 0) := fun x hx => by rw [List.eq_of_mem_replicate hx]; omega
theorem str_inj : ∀ (a b : List Int), okB a → okB b → Lib.bytesOf a = Lib.bytesOf b → a = b
  | [], [], _, _, _ => rfl
  | [], _ :: _, _, _, h => by cases h
  | _ :: _, [], _, _, h => by cases h
  | x :: xs, y :: ys, ha, hb, h => by
    have h2 := List.cons.inj h
    have bx := ha x List.mem_cons_self
    have by_ := hb y List.mem_cons_self
    have e2 := congrArg UInt8.toNat h2.1
    rw [UInt8.toNat_ofNat_of_lt' (by simp [UInt8.size]; omega), UInt8.toNat_ofNat_of_lt' (by simp [UInt8.size]; omega)] at e2
    rw [str_inj xs ys (fun z hz => ha z (List.mem_cons_of_mem _ hz)) (fun z hz => hb z (List.mem_cons_of_mem _ hz)) h2.2, show x = y by omega]
theorem str_eq {a b : List Int} (ha : okB a) (hb : okB b) : ((strOfNums a).toList == (strOfNums b).toList) = decide (a = b) := by
  rw [Lib.strOfNums_toList, Lib.strOfNums_toList]
  by_cases h : a = b
  · subst h; simp
  · rw [decide_eq_false h]
    exact beq_eq_false_iff_ne.2 (fun e => h (str_inj a b ha hb e))
theorem wadd (a b : Nat) (h : a + b ≤ 1000000) : wrap64 ((a : Int) + (b : Int)) = ((a + b : Nat) : Int) := by rw [w64 (by omega) (by omega)]; omega
theorem wmul (a b : Nat) (h : a * b ≤ 1000000) : wrap64 ((a : Int) * (b : Int)) = ((a * b : Nat) : Int) := by rw [← Int.natCast_mul]; exact w64 (by omega) (by omega)
def eachN (form : Int) : Nat := if form = 3 then 65536 else 65500
theorem each_ev (form : Int) : disk_each.f form = some ((eachN form : Nat) : Int) := by
  unfold disk_each.f eachN
  split <;> rfl
theorem eachN_pos (form : Int) : 65500 ≤ eachN form ∧ eachN form ≤ 65536 := by unfold eachN; split <;> omega
/-- a row in pieces of m -/
def pcs (m : Nat) (q : List Int) (n : Nat) : List (List Int) := (List.range n).map fun j => (q.drop (j * m)).take m
theorem pcs_length (m : Nat) (q : List Int) (n : Nat) : (pcs m q n).length = n := by simp [pcs]
theorem pcs_flatten (m : Nat) (q : List Int) (n : Nat) : (pcs m q n).flatten = q.take (n * m) := by
  induction n with
  | zero => simp [pcs]
  | succ n ih =>
    have : pcs m q (n + 1) = pcs m q n ++ [(q.drop (n * m)).take m] := by unfold pcs; rw [List.range_succ, List.map_append]; rfl
    rw [this, List.flatten_append, ih, Nat.add_mul, Nat.one_mul, List.take_add]
    simp
theorem pcs_get (m : Nat) (q : List Int) (n j : Nat) (hj : j < n) : (pcs m q n)[j]? = some ((q.drop (j * m)).take m) := by simp [pcs, hj]
def cnt (m : Nat) (q : List Int) : Nat := (q.length + m - 1) / m
theorem cnt_mul {m n : Nat} {q : List Int} (hm : 0 < m) (h : q.length = n * m) : cnt m q = n := by
  unfold cnt
  rw [h]
  have e1 : (n * m + m - 1) / m < n + 1 := by
    rw [Nat.div_lt_iff_lt_mul hm, Nat.add_mul, Nat.one_mul]; omega
  have e2 : n ≤ (n * m + m - 1) / m := by
    rw [Nat.le_div_iff_mul_le hm]; omega
  omega
theorem cnt_le {m : Nat} {q : List Int} (hm : 0 < m) : q.length ≤ cnt m q * m := by
  unfold cnt
  have h := Nat.div_add_mod (q.length + m - 1) m
  have h2 := Nat.mod_lt (q.length + m - 1) hm
  rw [Nat.mul_comm] at h
  omega
def allN (m : Nat) (L : List (List Int)) : Bool := L.all fun s => s.length == m
theorem allN_iff {m : Nat} {q : List Int} (hm : 0 < m) : allN m (pcs m q (cnt m q)) = true ↔ q.length = cnt m q * m := by
  constructor
  · intro h
    have h1 : ((pcs m q (cnt m q)).map List.length) = List.replicate (cnt m q) m := by
      refine List.eq_replicate_iff.2 ⟨by simp [pcs], fun b hb => ?_⟩
      obtain ⟨s, hs, rfl⟩ := List.mem_map.1 hb
      unfold allN at h
      rw [List.all_eq_true] at h
      simpa using h s hs
    have h2 := congrArg List.length (pcs_flatten m q (cnt m q))
    rw [List.length_flatten, h1, List.sum_replicate_nat, List.length_take, Nat.min_eq_right (cnt_le hm)] at h2
    exact h2.symm
  · intro h
    unfold allN
    rw [List.all_eq_true]
    intro s hs
    unfold pcs at hs
    obtain ⟨j, hj, rfl⟩ := List.mem_map.1 hs
    have hj := List.mem_range.1 hj
    have : (j + 1) * m ≤ cnt m q * m := Nat.mul_le_mul_right m hj
    rw [Nat.add_mul, Nat.one_mul] at this
    simp only [List.length_take, List.length_drop, beq_iff_eq]
    omega

/-! ### disk_Set_Right -/
def fit (form : Int) (L : List (List Int)) : Bool := decide (1 ≤ form ∧ form ≤ 3) && decide (1 ≤ L.length ∧ L.length ≤ 8)
def rightB (form : Int) (L : List (List Int)) : Bool := allN (eachN form) L && fit form L
theorem right_l0 (form : Int) (L : List (List Int)) (hl : L.length < 1000000000) (d : Nat) : ∀ i : Nat, i + d = L.length →
    Ev (fun k => disk_Set_Right.l0 k L (L.length : Int) (i : Int) form L) (allN (eachN form) (L.drop i) && fit form L) := by
  induction d with
  | zero =>
    intro i hi
    rw [List.drop_eq_nil_of_le (by omega)]
    refine Ev.step (f := fun _ => some (allN (eachN form) [] && fit form L)) (fun k => ?_) (Ev.now _)
    simp only [disk_Set_Right.l0]
    rw [if_neg (by omega)]
    unfold allN fit
    rw [List.all_nil, Bool.true_and]
    by_cases c1 : form ≥ 1
    · rw [if_pos c1]
      by_cases c2 : form ≤ 3
      · rw [if_pos c2, decide_eq_true (show 1 ≤ form ∧ form ≤ 3 from ⟨c1, c2⟩), Bool.true_and]
        by_cases c3 : (L.length : Int) ≥ 1
        · rw [if_pos c3]
          congr 1
          by_cases c4 : L.length ≤ 8
          · rw [decide_eq_true (show (L.length : Int) ≤ 8 by omega), decide_eq_true (show 1 ≤ L.length ∧ L.length ≤ 8 by omega)]
          · rw [decide_eq_false (show ¬ (L.length : Int) ≤ 8 by omega), decide_eq_false (show ¬ (1 ≤ L.length ∧ L.length ≤ 8) by omega)]
        · rw [if_neg c3, decide_eq_false (show ¬ (1 ≤ L.length ∧ L.length ≤ 8) by omega)]
      · rw [if_neg c2, decide_eq_false (show ¬ (1 ≤ form ∧ form ≤ 3) by omega), Bool.false_and]
    · rw [if_neg c1, decide_eq_false (show ¬ (1 ≤ form ∧ form ≤ 3) by omega), Bool.false_and]
  | succ d ih =>
    intro i hi
    have hd : L.drop i = rd_L1 L (i : Int) :: L.drop (i + 1) := by
      unfold rd_L1
      rw [List.drop_eq_getElem_cons (by omega), List.getD_eq_getElem?_getD, Int.toNat_natCast, List.getElem?_eq_getElem (by omega)]; rfl
    rw [hd, show allN (eachN form) (rd_L1 L (i : Int) :: L.drop (i + 1)) = ((rd_L1 L (i : Int)).length == eachN form && allN (eachN form) (L.drop (i + 1))) by simp [allN]]
    by_cases c : (rd_L1 L (i : Int)).length = eachN form
    · rw [beq_iff_eq.2 c, Bool.true_and]
      refine Ev.step (f := fun k => disk_Set_Right.l0 k L (L.length : Int) ((i + 1 : Nat) : Int) form L) (fun k => ?_) (ih (i + 1) (by omega))
      simp only [disk_Set_Right.l0]
      rw [if_pos (by omega), if_pos (by omega), if_pos (by omega), each_ev, Option.bind_some, if_pos (by omega), w64 (by omega) (by omega)]
      rfl
    · rw [beq_eq_false_iff_ne.2 c, Bool.false_and, Bool.false_and]
      refine Ev.step (f := fun _ => some false) (fun k => ?_) (Ev.now _)
      simp only [disk_Set_Right.l0]
      rw [if_pos (by omega), if_pos (by omega), if_pos (by omega), each_ev, Option.bind_some, if_neg (by omega)]
theorem right_ev (form : Int) (L : List (List Int)) (hl : L.length < 1000000000) : Ev (fun k => disk_Set_Right.f k form L) (rightB form L) := by
  have := right_l0 form L hl L.length 0 (by omega)
  simpa [disk_Set_Right.f, rightB] using this

/-! ### disk_Set_Bytes -/
def hd16 (n : Nat) : List Int := [70, 68, 83, 26, (n : Int)] ++ List.replicate 11 0
theorem hd16_length (n : Nat) : (hd16 n).length = 16 := by unfold hd16; simp
def setB (form : Int) (L : List (List Int)) : List Int := if rightB form L = true then (if form = 2 then hd16 L.length ++ L.flatten else L.flatten) else []
theorem concat_ev (L : List (List Int)) (h1 : L.flatten.length ≤ 4398046511104) (h2 : L.length ≤ 4398046511104) : slices_Concat_byte_byte.f L = some L.flatten := by
  unfold slices_Concat_byte_byte.f
  rw [if_pos ⟨by rw [← List.length_flatten]; exact h1, h2⟩]
theorem setB_ev (form : Int) (L : List (List Int)) (h1 : L.flatten.length ≤ 4398046511104) (h2 : L.length < 1000000000) : Ev (fun k => disk_Set_Bytes.f k form L) (setB form L) := by
  unfold disk_Set_Bytes.f setB
  refine Ev.bind (f := fun k t => if t = true then _ else _) (right_ev form L h2) ?_
  cases hr : rightB form L with
  | false => simp only [Bool.false_eq_true, if_false]; exact Ev.now _
  | true =>
    have h8 : L.length ≤ 8 := by
      unfold rightB fit at hr
      simp only [Bool.and_eq_true, decide_eq_true_eq] at hr
      omega
    simp only [if_true]
    have h1' := h1
    rw [List.length_flatten] at h1'
    by_cases c : form = 2
    · rw [if_pos c]
      refine Ev.congr (fun k => ?_) (Ev.now _)
      rw [if_pos c, Option.bind_some, if_pos (by simp), Option.bind_some]
      have e : ((L.length : Int)) % 256 = (L.length : Int) := by omega
      have e2 : wrap64 (16 - ((([70, 68, 83, 26] : List Int) ++ [(L.length : Int) % 256]).length : Int)) = 11 := by
        rw [show (([70, 68, 83, 26] : List Int) ++ [(L.length : Int) % 256]).length = 5 by simp, w64 (by omega) (by omega)]; rfl
      rw [e2, if_pos (by omega), if_pos (by simp), Option.bind_some, concat_ev L h1 (by omega), Option.bind_some, if_pos (by simp; omega)]
      congr 1
      unfold hd16
      rw [e]; simp
    · rw [if_neg c]
      refine Ev.congr (fun k => ?_) (Ev.now _)
      rw [if_neg c, concat_ev L h1 (by omega), Option.bind_some, if_pos (by simp; omega)]
      rfl

/-! ### bytes_Clone -/
theorem clone_f (l : List Int) (h : l.length ≤ 140737488355328) : bytes_Clone.f l = some l := by
  unfold bytes_Clone.f
  rw [if_pos h]

/-! ### disk_Parse -/
def magic (p : List Int) : Prop := 4 ≤ p.length ∧ p.take 4 = [70, 68, 83, 26]
instance (p : List Int) : Decidable (magic p) := by unfold magic; infer_instance
theorem okB_magic : okB [70, 68, 83, 26] := by intro x hx; simp at hx; omega
theorem prefix_ev (p : List Int) (hp : okB p) : bytes_HasPrefix.f p [70, 68, 83, 26] = some (decide (magic p)) := by
  unfold bytes_HasPrefix.f magic
  by_cases c : 4 ≤ p.length
  · rw [if_pos (by simp; omega), if_pos (by simp), if_pos (by simp; omega)]
    unfold bytes_Equal.f
    rw [Option.bind_some]
    have := str_eq (okB_take hp 4) okB_magic
    simp only [List.length_cons, List.length_nil] at this ⊢
    rw [show ((((0 + 1 + 1 + 1 + 1 : Nat) : Int)).toNat) = 4 from rfl, this]
    simp [c]
  · rw [if_neg (by simp; omega)]
    simp [c]
theorem cut_all (form : Int) (q : List Int) (h : q.length ≤ 1099511627776) : disk_cut.f form q = some (form, pcs (eachN form) q (cnt (eachN form) q)) := by
  unfold disk_cut.f
  rw [if_pos h]
  unfold pcs cnt disk_cut.offs eachN
  rw [List.map_map]
  split <;> rfl
theorem okB_hd16 {n : Nat} (h : n < 256) : okB (hd16 n) := by
  unfold hd16
  refine okB_append ?_ (okB_zeros 11)
  intro x hx
  simp at hx
  omega
theorem okB_setB {form : Int} {q : List Int} {L : List (List Int)} (hq : okB q) (h : L.flatten = q) : okB (setB form L) := by
  unfold setB
  rw [h]
  by_cases hr : rightB form L = true
  · rw [if_pos hr]
    have h8 : L.length ≤ 8 := by
      unfold rightB fit at hr
      simp only [Bool.and_eq_true, decide_eq_true_eq] at hr
      omega
    split
    · exact okB_append (okB_hd16 (by omega)) hq
    · exact hq
  · rw [if_neg hr]
    intro x hx
    cases hx
theorem parse_j0 (form : Int) (p : List Int) (L : List (List Int)) (q : List Int) (hp : okB p) (hq : okB q) (hL : L.flatten = q) (h1 : q.length ≤ 1099511627776) (h2 : L.length < 1000000000) :
    Ev (fun k => disk_Parse.j0 k p form L) (if rightB form L = true ∧ setB form L = p then (form, L, 0) else (0, [], 2)) := by
  have hb := setB_ev form L (by rw [hL]; omega) h2
  have he : bytes_Equal.f (setB form L) p = some (decide (setB form L = p)) := by
    unfold bytes_Equal.f
    rw [str_eq (okB_setB hq hL) hp]
  refine Ev.step (f := fun k => (disk_Set_Right.f k form L).bind fun t125 => (if t125 = true then ((disk_Set_Bytes.f k form L).bind fun t126 => ((bytes_Equal.f t126 p).bind fun t129 => (if t129 = true then (some (form, L, 0)) else (some (0, ([] : List (List Int)), 2))))) else (some (0, ([] : List (List Int)), 2)))) (fun k => by simp only [disk_Parse.j0]) ?_
  refine Ev.bind (f := fun k t => _) (right_ev form L h2) ?_
  cases hr : rightB form L with
  | false =>
    simp only [Bool.false_eq_true, if_false, false_and]
    exact Ev.now _
  | true =>
    simp only [if_true, true_and]
    refine Ev.bind (f := fun k t => _) hb ?_
    refine Ev.congr (fun k => ?_) (Ev.now _)
    rw [he, Option.bind_some]
    by_cases c : setB form L = p
    · rw [if_pos c, decide_eq_true c, if_pos rfl]
    · rw [if_neg c, decide_eq_false c, if_neg (by decide)]
def formOf (p : List Int) : Int := if magic p then 2 else if p.length % 65536 = 0 then 3 else 1
def bodyOf (p : List Int) : List Int := if magic p then p.drop (min 16 p.length) else p
def sidesOf (p : List Int) : List (List Int) := pcs (eachN (formOf p)) (bodyOf p) (cnt (eachN (formOf p)) (bodyOf p))
theorem bodyOf_le (p : List Int) : (bodyOf p).length ≤ p.length := by unfold bodyOf; split <;> simp
theorem sidesOf_flatten (p : List Int) : (sidesOf p).flatten = bodyOf p := by
  unfold sidesOf
  rw [pcs_flatten, List.take_of_length_le (cnt_le (by have := eachN_pos (formOf p); omega))]
theorem sidesOf_length (p : List Int) : (sidesOf p).length = cnt (eachN (formOf p)) (bodyOf p) := pcs_length _ _ _
theorem cnt_small (m : Nat) (q : List Int) (h : q.length ≤ 1099511627776) (hm : 65500 ≤ m) : cnt m q < 1000000000 := by
  unfold cnt
  rw [Nat.div_lt_iff_lt_mul (by omega)]
  have : 1000000000 * 65500 ≤ 1000000000 * m := Nat.mul_le_mul_left _ hm
  have h3 : q.length + m - 1 < 1099511627776 + m := by omega
  have h4 : 1099511627776 + m ≤ 1000000000 * m := by omega
  omega
theorem okB_body {p : List Int} (h : okB p) : okB (bodyOf p) := by unfold bodyOf; split; exact okB_drop h _; exact h
theorem parse_raw (p : List Int) (hp : okB p) (hl : p.length ≤ 1099511627776) :
    Ev (fun k => disk_Parse.f k p) (if rightB (formOf p) (sidesOf p) = true ∧ setB (formOf p) (sidesOf p) = p then (formOf p, sidesOf p, 0) else (0, [], 2)) := by
  have hb := bodyOf_le p
  have hj := parse_j0 (formOf p) p (sidesOf p) (bodyOf p) hp (okB_body hp) (sidesOf_flatten p) (by omega) (by rw [sidesOf_length]; exact cnt_small _ _ (by omega) (eachN_pos _).1)
  refine Ev.congr (fun k => ?_) hj
  unfold disk_Parse.f
  rw [prefix_ev p hp, Option.bind_some]
  have hc := cut_all (formOf p) (bodyOf p) (by omega)
  have hm : mn 16 (p.length : Int) = ((min 16 p.length : Nat) : Int) := by unfold mn; split <;> omega
  unfold sidesOf
  by_cases c : magic p
  · have ef : formOf p = 2 := by unfold formOf; rw [if_pos c]
    have eb : bodyOf p = p.drop (min 16 p.length) := by unfold bodyOf; rw [if_pos c]
    rw [decide_eq_true c, if_pos rfl, hm, if_pos (by omega), if_pos (by omega), Int.toNat_natCast]
    rw [ef, eb] at hc ⊢
    rw [hc, Option.bind_some]
  · have eb : bodyOf p = p := by unfold bodyOf; rw [if_neg c]
    rw [decide_eq_false c, if_neg (by decide)]
    by_cases c2 : p.length % 65536 = 0
    · have ef : formOf p = 3 := by unfold formOf; rw [if_neg c, if_pos c2]
      rw [if_pos (by omega)]
      rw [ef, eb] at hc ⊢
      rw [hc, Option.bind_some]
    · have ef : formOf p = 1 := by unfold formOf; rw [if_neg c, if_neg c2]
      rw [if_neg (by omega)]
      rw [ef, eb] at hc ⊢
      rw [hc, Option.bind_some]
/-- the document's set -/
def okS (p : List Int) : Prop := ∃ n, 1 ≤ n ∧ n ≤ 8 ∧ (bodyOf p).length = n * eachN (formOf p) ∧ (magic p → p.take 16 = hd16 n)
theorem formOf_range (p : List Int) : 1 ≤ formOf p ∧ formOf p ≤ 3 := by unfold formOf; split; omega; split <;> omega
theorem okS_cnt {p : List Int} {n : Nat} (h : (bodyOf p).length = n * eachN (formOf p)) : (sidesOf p).length = n := by
  rw [sidesOf_length, cnt_mul (by have := eachN_pos (formOf p); omega) h]
theorem okS_iff (p : List Int) : okS p ↔ (rightB (formOf p) (sidesOf p) = true ∧ setB (formOf p) (sidesOf p) = p) := by
  have hpos := eachN_pos (formOf p)
  have hfr := formOf_range p
  have hall : allN (eachN (formOf p)) (sidesOf p) = true ↔ (bodyOf p).length = cnt (eachN (formOf p)) (bodyOf p) * eachN (formOf p) := allN_iff (by omega)
  have hset : rightB (formOf p) (sidesOf p) = true → setB (formOf p) (sidesOf p) = if magic p then hd16 (sidesOf p).length ++ p.drop (min 16 p.length) else p := by
    intro hr
    unfold setB
    rw [if_pos hr, sidesOf_flatten]
    by_cases c : magic p
    · rw [if_pos c, if_pos (by unfold formOf; rw [if_pos c])]
      unfold bodyOf
      rw [if_pos c]
    · rw [if_neg c, if_neg (by unfold formOf; rw [if_neg c]; split <;> decide)]
      unfold bodyOf
      rw [if_neg c]
  constructor
  · rintro ⟨n, h1, h8, hl, hh⟩
    have hn := okS_cnt hl
    have hr : rightB (formOf p) (sidesOf p) = true := by
      unfold rightB fit
      rw [hall.2 (by rw [← sidesOf_length, hn]; exact hl), hn]
      simp only [Bool.true_and, Bool.and_eq_true, decide_eq_true_eq]
      omega
    refine ⟨hr, ?_⟩
    rw [hset hr, hn]
    by_cases c : magic p
    · rw [if_pos c, ← hh c]
      have h16 : 16 ≤ p.length := by
        have := congrArg List.length (hh c)
        rw [hd16_length, List.length_take] at this
        omega
      rw [Nat.min_eq_left h16, List.take_append_drop]
    · rw [if_neg c]
  · rintro ⟨hr, hs⟩
    rw [hset hr] at hs
    unfold rightB fit at hr
    simp only [Bool.and_eq_true, decide_eq_true_eq] at hr
    obtain ⟨ha, hf, hc⟩ := hr
    have hl := hall.1 ha
    rw [← sidesOf_length] at hl
    refine ⟨(sidesOf p).length, hc.1, hc.2, hl, fun c => ?_⟩
    rw [if_pos c] at hs
    have h16 : 16 ≤ p.length := by
      have := congrArg List.length hs
      rw [List.length_append, hd16_length] at this
      omega
    rw [← hs, List.take_append_of_le_length (by rw [hd16_length]; omega), List.take_of_length_le (by rw [hd16_length]; omega)]
    rw [hs]
noncomputable def parsed (p : List Int) : Int × List (List Int) × Int := open Classical in if okS p then (formOf p, sidesOf p, 0) else (0, [], 2)
theorem parse_ev (p : List Int) (hp : okB p) (hl : p.length ≤ 1099511627776) : Ev (fun k => disk_Parse.f k p) (parsed p) := by
  have h := parse_raw p hp hl
  unfold parsed
  by_cases c : okS p
  · rw [if_pos ((okS_iff p).1 c)] at h
    rw [if_pos c]
    exact h
  · rw [if_neg (fun h2 => c ((okS_iff p).2 h2))] at h
    rw [if_neg c]
    exact h

/-! ### kotatsulaw06_awake -/
theorem plain_zeros (z : List Int) (hz : z = List.replicate 65500 0) : formOf z = 1 ∧ okS z ∧ bodyOf z = z ∧ ¬ magic z := by
  have hl : z.length = 65500 := by rw [hz, List.length_replicate]
  have hm : ¬ magic z := by
    rintro ⟨_, h⟩
    rw [hz, List.take_replicate] at h
    have := congrArg (fun l => l.getD 0 0) h
    simp [show min 4 65500 = 4 from rfl, List.replicate] at this
  have hf : formOf z = 1 := by unfold formOf; rw [if_neg hm, if_neg (by omega)]
  have hb : bodyOf z = z := by unfold bodyOf; rw [if_neg hm]
  exact ⟨hf, ⟨1, by omega, by omega, by rw [hb, hl, hf]; rfl, fun h => absurd h hm⟩, hb, hm⟩
theorem awake_ev : Ev (fun k => kotatsulaw06_awake.f k) true := by
  unfold kotatsulaw06_awake.f
  obtain ⟨z, hz⟩ : ∃ z : List Int, z = List.replicate 65500 0 := ⟨_, rfl⟩
  obtain ⟨hf, hk, hb, _⟩ := plain_zeros z hz
  have hl : z.length = 65500 := by rw [hz, List.length_replicate]
  have hp := parse_ev z (by rw [hz]; exact okB_zeros _) (by omega)
  have hs : (sidesOf z).length = 1 := okS_cnt (n := 1) (by rw [hb, hl, hf]; rfl)
  unfold parsed at hp
  rw [if_pos hk, hf] at hp
  rw [← hz]
  refine Ev.congr (fun k => if_pos (by decide)) ?_
  refine Ev.bind (f := fun k t => _) hp ?_
  refine Ev.congr (fun k => ?_) (Ev.now _)
  dsimp only
  rw [if_pos rfl, if_pos rfl, hs]
  rfl

/-! ### kotatsuref01_Cut -/
theorem cut_l0 (l : List Int) (m : Nat) (hm : m < 100000) (hl : l.length ≤ 9223372036854775807) (d : Nat) : ∀ i : Nat, i + d = l.length → Ev (fun k => kotatsuref01_Cut.l0 k (m : Int) ((l.take i).take m) l (l.length : Int) (i : Int)) (l.take m) := by
  induction d with
  | zero =>
    intro i hi
    refine Ev.step (f := fun _ => some (l.take m)) (fun k => ?_) (Ev.now _)
    simp only [kotatsuref01_Cut.l0]
    rw [if_neg (by omega), List.take_of_length_le (show l.length ≤ i by omega)]
  | succ d ih =>
    intro i hi
    have hn := ih (i + 1) (by omega)
    have hlen : ((l.take i).take m).length ≤ i := by simp only [List.length_take]; omega
    have hget : l.take (i + 1) = l.take i ++ [rd l (i : Int)] := by
      unfold rd
      rw [List.take_succ_eq_append_getElem (by omega), List.getD_eq_getElem?_getD, Int.toNat_natCast, List.getElem?_eq_getElem (by omega)]; rfl
    by_cases c : i < m
    · refine Ev.step (f := fun k => kotatsuref01_Cut.l0 k (m : Int) ((l.take (i + 1)).take m) l (l.length : Int) ((i + 1 : Nat) : Int)) (fun k => ?_) hn
      simp only [kotatsuref01_Cut.l0]
      rw [if_pos (by omega), if_pos (by omega), if_pos (by omega), if_pos (by omega), if_pos (by omega), w64 (by omega) (by omega)]
      have e : (l.take (i + 1)).take m = (l.take i).take m ++ [rd l (i : Int)] := by
        rw [hget, List.take_append, List.take_of_length_le (l := [rd l (i : Int)]) (by simp only [List.length_take, List.length_cons, List.length_nil]; omega)]
      rw [e]; rfl
    · refine Ev.step (f := fun k => kotatsuref01_Cut.l0 k (m : Int) ((l.take (i + 1)).take m) l (l.length : Int) ((i + 1 : Nat) : Int)) (fun k => ?_) hn
      simp only [kotatsuref01_Cut.l0]
      rw [if_pos (by omega), if_pos (by omega), if_pos (by omega), if_neg (by omega), w64 (by omega) (by omega)]
      have e : (l.take (i + 1)).take m = (l.take i).take m := by
        rw [List.take_take, List.take_take]; congr 1; omega
      rw [e]; rfl
theorem cut_ev (l : List Int) (m : Nat) (hm : m < 100000) (hl : l.length ≤ 9223372036854775807) : Ev (fun k => kotatsuref01_Cut.f k l (m : Int)) (l.take m) := by
  have := cut_l0 l m hm hl l.length 0 (by omega)
  simpa [kotatsuref01_Cut.f] using this

/-! ### kotatsuref01_Join -/
theorem join_l0 (L : List (List Int)) (hl : L.length < 1000000000) (hsum : L.flatten.length < 140737488355328) (d : Nat) : ∀ i : Nat, i + d = L.length →
    Ev (fun k => kotatsuref01_Join.l0 k (L.take i).flatten L (L.length : Int) (i : Int)) L.flatten := by
  induction d with
  | zero =>
    intro i hi
    rw [List.take_of_length_le (by omega)]
    refine Ev.step (f := fun _ => some L.flatten) (fun k => ?_) (Ev.now _)
    simp only [kotatsuref01_Join.l0]
    rw [if_neg (by omega)]
  | succ d ih =>
    intro i hi
    have e : (L.take (i + 1)).flatten = (L.take i).flatten ++ rd_L1 L (i : Int) := by
      rw [List.take_succ_eq_append_getElem (by omega), List.flatten_append]
      unfold rd_L1
      rw [List.getD_eq_getElem?_getD, Int.toNat_natCast, List.getElem?_eq_getElem (by omega)]
      simp
    have hle : ((L.take (i + 1)).flatten).length ≤ L.flatten.length := by
      have : L.flatten = (L.take (i + 1)).flatten ++ (L.drop (i + 1)).flatten := by rw [← List.flatten_append, List.take_append_drop]
      rw [this, List.length_append]; omega
    rw [e, List.length_append] at hle
    have h1 := ih (i + 1) (by omega)
    rw [e] at h1
    refine Ev.step (f := fun k => kotatsuref01_Join.l0 k ((L.take i).flatten ++ rd_L1 L (i : Int)) L (L.length : Int) ((i + 1 : Nat) : Int)) (fun k => ?_) h1
    simp only [kotatsuref01_Join.l0]
    rw [if_pos (by omega), if_pos (by omega), if_pos (by omega), if_pos (by omega), w64 (by omega) (by omega)]
    rfl
theorem join_ev (L : List (List Int)) (hl : L.length < 1000000000) (hsum : L.flatten.length < 140737488355328) : Ev (fun k => kotatsuref01_Join.f k L) L.flatten := by
  have := join_l0 L hl hsum L.length 0 (by omega)
  simpa [kotatsuref01_Join.f] using this

/-! ### kotatsuref01_Same -/
theorem same_l0 (a b : List Int) (hl : a.length = b.length) (hm : a.length ≤ 140737488355328) (d : Nat) : ∀ i : Nat, i + d = a.length →
    Ev (fun k => kotatsuref01_Same.l0 k a b (a.length : Int) (i : Int)) (decide (a.drop i = b.drop i)) := by
  induction d with
  | zero =>
    intro i hi
    rw [List.drop_eq_nil_of_le (by omega), List.drop_eq_nil_of_le (by omega)]
    refine Ev.step (f := fun _ => some true) (fun k => ?_) (Ev.now _)
    simp only [kotatsuref01_Same.l0]
    rw [if_neg (by omega)]
  | succ d ih =>
    intro i hi
    have ha : a.drop i = rd a (i : Int) :: a.drop (i + 1) := by
      unfold rd
      rw [List.drop_eq_getElem_cons (by omega), List.getD_eq_getElem?_getD, Int.toNat_natCast, List.getElem?_eq_getElem (by omega)]; rfl
    have hb : b.drop i = rd b (i : Int) :: b.drop (i + 1) := by
      unfold rd
      rw [List.drop_eq_getElem_cons (by omega), List.getD_eq_getElem?_getD, Int.toNat_natCast, List.getElem?_eq_getElem (by omega)]; rfl
    by_cases c : rd a (i : Int) = rd b (i : Int)
    · have h1 := ih (i + 1) (by omega)
      have e : decide (a.drop i = b.drop i) = decide (a.drop (i + 1) = b.drop (i + 1)) := by
        rw [ha, hb, c]; simp
      rw [e]
      refine Ev.step (f := fun k => kotatsuref01_Same.l0 k a b (a.length : Int) ((i + 1 : Nat) : Int)) (fun k => ?_) h1
      simp only [kotatsuref01_Same.l0]
      rw [if_pos (by omega), if_pos (by omega), if_pos (by omega), if_pos (by omega), if_pos c, w64 (by omega) (by omega)]
      rfl
    · have e : decide (a.drop i = b.drop i) = false := by
        rw [ha, hb]; simp [c]
      rw [e]
      refine Ev.step (f := fun _ => some false) (fun k => ?_) (Ev.now _)
      simp only [kotatsuref01_Same.l0]
      rw [if_pos (by omega), if_pos (by omega), if_pos (by omega), if_pos (by omega), if_neg c]
theorem same_ev (a b : List Int) (hm : a.length ≤ 140737488355328) : Ev (fun k => kotatsuref01_Same.f k a b) (decide (a = b)) := by
  unfold kotatsuref01_Same.f
  by_cases c : a.length = b.length
  · have := same_l0 a b c hm a.length 0 (by omega)
    refine Ev.congr (fun k => ?_) this
    rw [if_pos (by omega)]
    rfl
  · have e : decide (a = b) = false := decide_eq_false (fun h => c (by rw [h]))
    rw [e]
    refine Ev.congr (fun k => ?_) (Ev.now _)
    rw [if_neg (by omega)]

/-! ### kotatsuref06_Parse -/
def refs (p : List Int) (frm m n : Nat) : List (List Int) := (List.range n).map fun j => (p.take (frm + j * m + m)).drop (frm + j * m)
theorem refs_eq (p : List Int) (frm m n : Nat) : refs p frm m n = pcs m (p.drop frm) n := by
  unfold refs pcs
  apply List.map_congr_left
  intro j _
  rw [List.drop_take, List.drop_drop, show frm + j * m + m - (frm + j * m) = m by omega]
theorem rparse_l0 (p : List Int) (form : Int) (frm m n : Nat) (hl : p.length ≤ 1099511627776) (hm : m ≤ 65536) (hn : n ≤ 8) (hf : frm ≤ 16) (he : p.length = frm + n * m) (d : Nat) : ∀ i : Nat, i + d = n →
    Ev (fun k => kotatsuref06_Parse.l0 k p form (m : Int) (frm : Int) (n : Int) (refs p frm m i) (i : Int)) (form, refs p frm m n) := by
  induction d with
  | zero =>
    intro i hi
    refine Ev.step (f := fun _ => some (form, refs p frm m n)) (fun k => ?_) (Ev.now _)
    simp only [kotatsuref06_Parse.l0]
    rw [if_neg (by omega), show i = n by omega]
  | succ d ih =>
    intro i hi
    have e1 : refs p frm m (i + 1) = refs p frm m i ++ [(p.take (frm + i * m + m)).drop (frm + i * m)] := by unfold refs; rw [List.range_succ, List.map_append]; rfl
    have h1 : i * m ≤ 8 * 65536 := Nat.mul_le_mul (by omega) hm
    have h2 : (i + 1) * m ≤ n * m := Nat.mul_le_mul_right m (by omega)
    rw [Nat.add_mul, Nat.one_mul] at h2
    have hlr : (refs p frm m i).length = i := by simp [refs]
    have hstep := ih (i + 1) (by omega)
    rw [e1] at hstep
    have b1 : frm + i * m + m ≤ 1000000 := by omega
    have b2 : frm + i * m + m ≤ p.length := by omega
    have w1 := wmul i m (by omega)
    have w2 := wadd frm (i * m) (Nat.le_trans (Nat.le_add_right _ m) b1)
    have w3 := wadd (frm + i * m) m b1
    refine Ev.step (f := fun k => kotatsuref06_Parse.l0 k p form (m : Int) (frm : Int) (n : Int) (refs p frm m i ++ [(p.take (frm + i * m + m)).drop (frm + i * m)]) ((i + 1 : Nat) : Int)) (fun k => ?_) hstep
    simp only [kotatsuref06_Parse.l0]
    rw [w1, w2, w3]
    clear w1 w2 w3 hstep e1
    rw [if_pos (by omega), if_pos (by omega), if_pos (by omega), if_pos (by omega), if_pos (by rw [hlr]; omega), w64 (by omega) (by omega), Int.toNat_natCast, Int.toNat_natCast]
    rfl
theorem rparse_none (p : List Int) (form m frm n : Int) : Ev (fun k => kotatsuref06_Parse.j2 k p form m frm n true) (0, []) := by
  refine Ev.step (f := fun _ => some (0, [])) (fun k => ?_) (Ev.now _)
  simp only [kotatsuref06_Parse.j2]
  rfl
theorem rparse_j3 (p : List Int) (form : Int) (frm m n : Nat) (hl : p.length ≤ 1099511627776) (hm : m ≤ 65536) (hn : n ≤ 8) (hf : frm ≤ 16) (he : p.length = frm + n * m) :
    Ev (fun k => kotatsuref06_Parse.j3 k p form (m : Int) (frm : Int) (n : Int) false) (form, pcs m (p.drop frm) n) := by
  have := rparse_l0 p form frm m n hl hm hn hf he n 0 (by omega)
  rw [refs_eq p frm m n] at this
  refine Ev.step (f := fun k => kotatsuref06_Parse.l0 k p form (m : Int) (frm : Int) (n : Int) ([] : List (List Int)) 0) (fun k => ?_) this
  simp only [kotatsuref06_Parse.j3]
  rw [if_neg (by decide)]
theorem rparse_j2 (p : List Int) (frm m n : Nat) (hl : p.length ≤ 1099511627776) (hm : m ≤ 65536) (hn : n ≤ 8) (hf : frm ≤ 16) (he : p.length = frm + n * m) (form : Int) (h2 : form ≠ 2) :
    Ev (fun k => kotatsuref06_Parse.j2 k p form (m : Int) (frm : Int) (n : Int) false) (form, pcs m (p.drop frm) n) := by
  refine Ev.step (f := fun k => kotatsuref06_Parse.j3 k p form (m : Int) (frm : Int) (n : Int) false) (fun k => ?_) (rparse_j3 p form frm m n hl hm hn hf he)
  simp only [kotatsuref06_Parse.j2]
  rw [if_neg (by decide), if_neg h2]
theorem rparse_j2h (p : List Int) (m n : Nat) (hl : p.length ≤ 1099511627776) (hm : m ≤ 65536) (hn : n ≤ 8) (he : p.length = 16 + n * m) :
    Ev (fun k => kotatsuref06_Parse.j2 k p 2 (m : Int) 16 (n : Int) false) (if (p.take 16).drop 4 = [(n : Int)] ++ List.replicate 11 0 then (2, pcs m (p.drop 16) n) else (0, [])) := by
  have e1 : ((n : Int)) % 256 = (n : Int) := by omega
  have hj := join_ev [[(n : Int)], List.replicate 11 0] (by simp) (by simp)
  rw [show [[(n : Int)], List.replicate 11 0].flatten = [(n : Int)] ++ List.replicate 11 0 by simp] at hj
  have hs := same_ev ((p.take 16).drop 4) ([(n : Int)] ++ List.replicate 11 0) (by simp only [List.length_drop, List.length_take]; omega)
  refine Ev.step (f := fun k => (kotatsuref01_Join.f k [[(n : Int)], List.replicate 11 0]).bind fun t168 => ((kotatsuref01_Same.f k ((p.take 16).drop 4) t168).bind fun t171 => (kotatsuref06_Parse.j3 k p 2 (m : Int) 16 (n : Int) (!t171)))) (fun k => ?_) (Ev.bind (f := fun k t => _) hj (Ev.bind (f := fun k t => _) hs ?_))
  · simp only [kotatsuref06_Parse.j2]
    rw [if_neg (by decide), if_pos trivial, if_pos (by omega), if_pos (by omega), if_pos (by omega), e1]
  · by_cases c : (p.take 16).drop 4 = [(n : Int)] ++ List.replicate 11 0
    · rw [if_pos c, decide_eq_true c]
      exact rparse_j3 p 2 16 m n hl hm hn (by omega) he
    · rw [if_neg c, decide_eq_false c]
      refine Ev.step (f := fun _ => some (0, [])) (fun k => ?_) (Ev.now _)
      simp only [kotatsuref06_Parse.j3]
      rfl
theorem tdiv_small (len frm m : Nat) (hf : frm ≤ 16) (hm : 65500 ≤ m) (hl : len ≤ 1099511627776) : wrap64 (Int.tdiv (wrap64 ((len : Int) - (frm : Int))) (m : Int)) = (((len - frm) / m : Nat) : Int) := by
  rw [show wrap64 ((len : Int) - (frm : Int)) = (len : Int) - (frm : Int) from w64 (by omega) (by omega)]
  have hq : (len - frm) / m ≤ len - frm := Nat.div_le_self _ _
  by_cases c : frm ≤ len
  · rw [show (len : Int) - (frm : Int) = ((len - frm : Nat) : Int) by omega, show Int.tdiv ((len - frm : Nat) : Int) (m : Int) = (((len - frm) / m : Nat) : Int) from rfl]
    generalize (len - frm) / m = z at *
    exact w64 (by omega) (by omega)
  · rw [show (len : Int) - (frm : Int) = -((frm - len : Nat) : Int) by omega, Int.neg_tdiv, show Int.tdiv ((frm - len : Nat) : Int) (m : Int) = (((frm - len) / m : Nat) : Int) from rfl, Nat.div_eq_of_lt (show frm - len < m by omega), show len - frm = 0 by omega, Nat.zero_div]
    rw [w64 (by omega) (by omega)]
    rfl
theorem rparse_j1 (p : List Int) (form : Int) (frm m : Nat) (hl : p.length ≤ 1099511627776) (hm : 65500 ≤ m ∧ m ≤ 65536) (hf : frm ≤ 16) (r : Int × List (List Int))
    (h0 : ∀ n : Nat, (p.length - frm) / m = n → ¬ (1 ≤ n ∧ n ≤ 8 ∧ p.length = frm + n * m) → r = (0, []))
    (h1 : ∀ n : Nat, (p.length - frm) / m = n → 1 ≤ n → n ≤ 8 → p.length = frm + n * m → Ev (fun k => kotatsuref06_Parse.j2 k p form (m : Int) (frm : Int) (n : Int) false) r) :
    Ev (fun k => kotatsuref06_Parse.j1 k p form (m : Int) (frm : Int)) r := by
  have ht := tdiv_small p.length frm m hf hm.1 hl
  obtain ⟨n, hn⟩ : ∃ n, (p.length - frm) / m = n := ⟨_, rfl⟩
  have h0 := h0 n hn
  have h1 := h1 n hn
  rw [hn] at ht
  by_cases c1 : n < 1
  · rw [h0 (by omega)]
    refine Ev.step (f := fun k => kotatsuref06_Parse.j2 k p form (m : Int) (frm : Int) (n : Int) true) (fun k => ?_) (rparse_none p _ _ _ _)
    simp only [kotatsuref06_Parse.j1]
    rw [if_neg (by omega), ht, if_pos (by omega)]
  by_cases c2 : 8 < n
  · rw [h0 (by omega)]
    refine Ev.step (f := fun k => kotatsuref06_Parse.j2 k p form (m : Int) (frm : Int) (n : Int) true) (fun k => ?_) (rparse_none p _ _ _ _)
    simp only [kotatsuref06_Parse.j1]
    rw [if_neg (by omega), ht, if_neg (by omega), if_pos (by omega)]
  have hnm : n * m ≤ 8 * 65536 := Nat.mul_le_mul (by omega) hm.2
  have w1 : wrap64 ((n : Int) * (m : Int)) = ((n * m : Nat) : Int) := by rw [← Int.natCast_mul]; exact w64 (by omega) (by omega)
  have w2 : wrap64 ((frm : Int) + ((n * m : Nat) : Int)) = ((frm + n * m : Nat) : Int) := by rw [w64 (by omega) (by omega)]; omega
  by_cases c3 : p.length = frm + n * m
  · refine Ev.step (f := fun k => kotatsuref06_Parse.j2 k p form (m : Int) (frm : Int) (n : Int) false) (fun k => ?_) (h1 (by omega) (by omega) c3)
    simp only [kotatsuref06_Parse.j1]
    rw [if_neg (by omega), ht, if_neg (by omega), if_neg (by omega), w1, w2, c3]
    simp
  · rw [h0 (fun h => c3 h.2.2)]
    refine Ev.step (f := fun k => kotatsuref06_Parse.j2 k p form (m : Int) (frm : Int) (n : Int) true) (fun k => ?_) (rparse_none p _ _ _ _)
    simp only [kotatsuref06_Parse.j1]
    rw [if_neg (by omega), ht, if_neg (by omega), if_neg (by omega), w1, w2]
    rw [show ((p.length : Int) != ((frm + n * m : Nat) : Int)) = true from by rw [bne_iff_ne]; omega]
noncomputable def refd (p : List Int) : Int × List (List Int) := open Classical in if okS p then (formOf p, sidesOf p) else (0, [])
theorem rmagic (p : List Int) (hp : okB p) : ((strOfNums (p.take 4)).toList == ([70, 68, 83, 26] : List UInt8)) = decide (p.take 4 = [70, 68, 83, 26]) := by
  have := str_eq (okB_take hp 4) okB_magic
  rw [← this, Lib.strOfNums_toList [70, 68, 83, 26]]
  rfl
theorem div_len {l m n : Nat} (hm : 0 < m) (h : l = n * m) : l / m = n := by rw [h, Nat.mul_div_cancel _ hm]
theorem rparse_ev (p : List Int) (hp : okB p) (hl : p.length ≤ 1099511627776) : Ev (fun k => kotatsuref06_Parse.f k p) (refd p) := by
  have hpos := eachN_pos (formOf p)
  suffices hj : Ev (fun k => kotatsuref06_Parse.j0 k p 1 65500 0 (decide (magic p))) (refd p) by
    unfold kotatsuref06_Parse.f
    by_cases c : 4 ≤ p.length
    · refine Ev.congr (fun k => ?_) hj
      rw [if_pos (by omega), if_pos (by omega), rmagic p hp]
      congr 1
      by_cases c2 : p.take 4 = [70, 68, 83, 26]
      · rw [decide_eq_true c2, decide_eq_true (show magic p from ⟨c, c2⟩)]
      · rw [decide_eq_false c2, decide_eq_false (show ¬ magic p from fun h => c2 h.2)]
    · refine Ev.congr (fun k => ?_) hj
      rw [if_neg (by omega)]
      congr 1
      exact (decide_eq_false (show ¬ magic p from fun h => c h.1)).symm
  by_cases c : magic p
  · have ef : formOf p = 2 := by unfold formOf; rw [if_pos c]
    have eb : bodyOf p = p.drop (min 16 p.length) := by unfold bodyOf; rw [if_pos c]
    have en : eachN (formOf p) = 65500 := by rw [ef]; rfl
    rw [decide_eq_true c]
    have hj1 := rparse_j1 p 2 16 65500 hl (by omega) (by omega) (refd p) (fun n hn hno => by
      unfold refd
      rw [if_neg]
      rintro ⟨k, h1, h8, hb, hh⟩
      have h16 : 16 ≤ p.length := by
        have := congrArg List.length (hh c)
        rw [hd16_length, List.length_take] at this
        omega
      rw [en, eb, List.length_drop, Nat.min_eq_left h16] at hb
      have := div_len (by omega) hb
      exact hno (by omega)) (fun n hn h1 h8 he => by
      have h := rparse_j2h p 65500 n hl (by omega) h8 he
      have hb : (bodyOf p).length = n * eachN (formOf p) := by rw [en, eb, List.length_drop, Nat.min_eq_left (by omega)]; omega
      have hs : sidesOf p = pcs 65500 (p.drop 16) n := by
        unfold sidesOf
        rw [cnt_mul (by omega) hb, en, eb, Nat.min_eq_left (by omega)]
      have h4 : p.take 16 = [70, 68, 83, 26] ++ (p.take 16).drop 4 := by
        have : (p.take 16).take 4 = [70, 68, 83, 26] := by rw [List.take_take]; exact c.2
        rw [← this, List.take_append_drop]
      have hk : okS p ↔ (p.take 16).drop 4 = [(n : Int)] ++ List.replicate 11 0 := by
        constructor
        · rintro ⟨k, _, _, hb2, hh⟩
          have e : k = n := by
            rw [hb] at hb2
            exact (Nat.eq_of_mul_eq_mul_right (by omega) hb2).symm
          rw [hh c, e]
          rfl
        · intro h
          refine ⟨n, h1, h8, hb, fun _ => ?_⟩
          rw [h4, h]
          rfl
      unfold refd
      by_cases c3 : okS p
      · rw [if_pos (hk.1 c3)] at h
        rw [if_pos c3, ef, hs]
        exact h
      · rw [if_neg (fun h => c3 (hk.2 h))] at h
        rw [if_neg c3]
        exact h)
    refine Ev.step (f := fun k => kotatsuref06_Parse.j1 k p 2 65500 16) (fun k => ?_) hj1
    simp only [kotatsuref06_Parse.j0]
    rw [if_pos trivial]
  · have eb : bodyOf p = p := by unfold bodyOf; rw [if_neg c]
    rw [decide_eq_false c]
    have hgo : ∀ (form : Int) (m : Nat), form ≠ 2 → formOf p = form → eachN form = m → Ev (fun k => kotatsuref06_Parse.j1 k p form (m : Int) 0) (refd p) := by
      intro form m h2 ef en
      rw [ef, en] at hpos
      refine rparse_j1 p form 0 m hl (by omega) (by omega) (refd p) (fun n hn hno => by
        unfold refd
        rw [if_neg]
        rintro ⟨k, h1, h8, hb, hh⟩
        rw [ef, en, eb] at hb
        have := div_len (by omega) hb
        exact hno (by rw [Nat.sub_zero] at hn; rw [hn] at this; subst this; exact ⟨h1, h8, by omega⟩)) (fun n hn h1 h8 he => by
        have h := rparse_j2 p 0 m n hl (by omega) h8 (by omega) he form h2
        have hb : (bodyOf p).length = n * eachN (formOf p) := by rw [ef, en, eb]; omega
        have hs : sidesOf p = pcs m (p.drop 0) n := by
          unfold sidesOf
          rw [cnt_mul (by rw [ef, en]; omega) hb, ef, en, eb]; rfl
        unfold refd
        rw [if_pos (show okS p from ⟨n, h1, h8, hb, fun hc => absurd hc c⟩), ef, hs]
        exact h)
    by_cases c2 : p.length % 65536 = 0
    · refine Ev.step (f := fun k => kotatsuref06_Parse.j1 k p 3 65536 0) (fun k => ?_) (hgo 3 65536 (by decide) (by unfold formOf; rw [if_neg c, if_pos c2]) rfl)
      simp only [kotatsuref06_Parse.j0]
      rw [if_neg (by decide), if_pos (by omega)]
    · refine Ev.step (f := fun k => kotatsuref06_Parse.j1 k p 1 65500 0) (fun k => ?_) (hgo 1 65500 (by decide) (by unfold formOf; rw [if_neg c, if_neg c2]) rfl)
      simp only [kotatsuref06_Parse.j0]
      rw [if_neg (by decide), if_neg (by omega)]

theorem dp_l0 (r : List Int) (hp : okB r) (hl : r.length ≤ 1000000) (hk : okS r) (h8 : (sidesOf r).length ≤ 8) (d : Nat) : ∀ i : Nat, i + d = (sidesOf r).length →
    Ev (fun k => kotatsulaw06_DiskParses.l0 k r (sidesOf r) ((sidesOf r).length : Int) (i : Int) (formOf r) (sidesOf r)) true := by
  induction d with
  | zero =>
    intro i hi
    have hb := setB_ev (formOf r) (sidesOf r) (by rw [sidesOf_flatten]; have := bodyOf_le r; omega) (by omega)
    rw [((okS_iff r).1 hk).2] at hb
    have hs := same_ev r r (by omega)
    rw [decide_eq_true rfl] at hs
    refine Ev.step (f := fun k => (disk_Set_Bytes.f k (formOf r) (sidesOf r)).bind fun t222 => ((kotatsuref01_Same.f k t222 r).bind fun t225 => (some t225))) (fun k => ?_) (Ev.bind (f := fun k t => _) hb (Ev.bind (f := fun k t => some t) hs (Ev.now _)))
    simp only [kotatsulaw06_DiskParses.l0]
    rw [if_neg (by omega)]
  | succ d ih =>
    intro i hi
    have hlen : (rd_L1 (sidesOf r) (i : Int)).length ≤ 65536 := by
      unfold rd_L1
      rw [List.getD_eq_getElem?_getD, Int.toNat_natCast]
      unfold sidesOf
      rw [sidesOf_length] at hi
      rw [pcs_get _ _ _ _ (by omega), Option.getD_some, List.length_take]
      have := eachN_pos (formOf r)
      omega
    have hs := same_ev (rd_L1 (sidesOf r) (i : Int)) (rd_L1 (sidesOf r) (i : Int)) (by omega)
    rw [decide_eq_true rfl] at hs
    refine Ev.step (f := fun k => (kotatsuref01_Same.f k (rd_L1 (sidesOf r) (i : Int)) (rd_L1 (sidesOf r) (i : Int))).bind fun t221 => (if t221 = true then (kotatsulaw06_DiskParses.l0 k r (sidesOf r) ((sidesOf r).length : Int) ((i + 1 : Nat) : Int) (formOf r) (sidesOf r)) else (some false))) (fun k => ?_) (Ev.bind (f := fun k t => _) hs ?_)
    · simp only [kotatsulaw06_DiskParses.l0]
      rw [if_pos (by omega), if_pos (by omega), if_pos (by omega), if_pos (by omega), w64 (by omega) (by omega)]
      rfl
    · simp only [if_true]
      exact ih (i + 1) (by omega)
theorem dp_j0 (q : List Int) (F : Nat) (hq : okB q) (hl : q.length ≤ 100) (hF : F ≤ 589500) : Ev (fun k => kotatsulaw06_DiskParses.j0 k q (F : Int)) true := by
  have hx : mx 0 (wrap64 ((F : Int) - (q.length : Int))) = ((F - q.length : Nat) : Int) := by
    rw [w64 (by omega) (by omega)]
    unfold mx
    split <;> omega
  obtain ⟨r, hr⟩ : ∃ r : List Int, r = q ++ List.replicate (F - q.length) 0 := ⟨_, rfl⟩
  have hrl : r.length ≤ 600000 := by rw [hr, List.length_append, List.length_replicate]; omega
  have hrb : okB r := by rw [hr]; exact okB_append hq (okB_zeros _)
  have hj := join_ev [q, List.replicate (F - q.length) 0] (by simp) (by simp; omega)
  rw [show [q, List.replicate (F - q.length) 0].flatten = r by rw [hr]; simp] at hj
  have h1 := parse_ev r hrb (by omega)
  have h2 := rparse_ev r hrb (by omega)
  refine Ev.step (f := fun k => (kotatsuref01_Join.f k [q, List.replicate (F - q.length) 0]).bind fun t206 => ((disk_Parse.f k t206).bind fun bt209 => ((kotatsuref06_Parse.f k t206).bind fun bt215 => (if bt215.1 = 0 then (if bt209.2.2 = 2 then (some ((bt209.2.1.length : Int) == 0)) else (some false)) else (if bt209.2.2 = 0 then (if bt209.1 = bt215.1 then (kotatsulaw06_DiskParses.j1 k t206 bt215.2 ((bt209.2.1.length : Int) != (bt215.2.length : Int)) bt209.1 bt209.2.1) else (kotatsulaw06_DiskParses.j1 k t206 bt215.2 true bt209.1 bt209.2.1)) else (kotatsulaw06_DiskParses.j1 k t206 bt215.2 true bt209.1 bt209.2.1)))))) (fun k => ?_) (Ev.bind (f := fun k t => _) hj (Ev.bind (f := fun k t => _) h1 (Ev.bind (f := fun k t => _) h2 ?_)))
  · simp only [kotatsulaw06_DiskParses.j0]
    rw [hx, if_pos (by omega), Int.toNat_natCast, if_pos (by omega)]
  · unfold parsed refd
    have hfr := formOf_range r
    by_cases c : okS r
    · rw [if_pos c, if_pos c]
      have h8 : (sidesOf r).length ≤ 8 := by
        obtain ⟨n, _, h8, hb, _⟩ := c
        rw [okS_cnt hb]; exact h8
      refine Ev.congr (f := fun k => kotatsulaw06_DiskParses.j1 k r (sidesOf r) false (formOf r) (sidesOf r)) (fun k => ?_) (Ev.step (f := fun k => kotatsulaw06_DiskParses.l0 k r (sidesOf r) ((sidesOf r).length : Int) 0 (formOf r) (sidesOf r)) (fun k => ?_) (dp_l0 r hrb (by omega) c h8 (sidesOf r).length 0 (by omega)))
      · dsimp only
        rw [if_neg (by omega), if_pos rfl, if_pos rfl]
        rw [show (((sidesOf r).length : Int) != ((sidesOf r).length : Int)) = false by simp]
      · simp only [kotatsulaw06_DiskParses.j1]
        rw [if_neg (by decide)]
    · rw [if_neg c, if_neg c]
      exact Ev.now true
theorem DiskParses : kotatsulaw06_DiskParses.Pure := by
  intro l0 a1 a2 _ hl0 hb ha1 ha2
  simp [Lit.wf, IntKind.min, IntKind.max, IntKind.signed, IntKind.bits] at ha1 ha2
  have hp : okB l0 := okB_of hb
  have hc0 := cut_ev l0 40 (by decide) (by omega)
  have h40 : (l0.take 40).length ≤ 40 := by rw [List.length_take]; omega
  have hpt := okB_take hp 40
  generalize l0.take 40 = p at *
  obtain ⟨a, rfl⟩ : ∃ a : Nat, a1 = a := ⟨a1.toNat, by omega⟩
  obtain ⟨b, rfl⟩ : ∃ b : Nat, a2 = b := ⟨a2.toNat, by omega⟩
  have hm : Int.tmod (b : Int) 6 = ((b % 6 : Nat) : Int) := rfl
  have hw : wrap64 (Int.tmod (a : Int) 140000) = ((a % 140000 : Nat) : Int) := by rw [show Int.tmod (a : Int) 140000 = ((a % 140000 : Nat) : Int) from rfl, w64 (by omega) (by omega)]
  obtain ⟨Y, hY⟩ : ∃ Y : List Int, Y = [65500, 65536, 65516, 131000, wrap64 (Int.tmod (a : Int) 140000), 589500] := ⟨_, rfl⟩
  have hYl : Y.length = 6 := by rw [hY]; rfl
  have hget : ∃ F : Nat, rd Y ((b % 6 : Nat) : Int) = (F : Int) ∧ F ≤ 589500 := by
    rw [hY, hw]
    have h6 : b % 6 = 0 ∨ b % 6 = 1 ∨ b % 6 = 2 ∨ b % 6 = 3 ∨ b % 6 = 4 ∨ b % 6 = 5 := by omega
    rcases h6 with h | h | h | h | h | h <;> rw [h]
    · exact ⟨65500, rfl, by omega⟩
    · exact ⟨65536, rfl, by omega⟩
    · exact ⟨65516, rfl, by omega⟩
    · exact ⟨131000, rfl, by omega⟩
    · exact ⟨a % 140000, rfl, by omega⟩
    · exact ⟨589500, rfl, by omega⟩
  obtain ⟨F, hF, hF2⟩ := hget
  refine Ev.rounds (Ev.bind (f := fun k t => if t = true then _ else _) awake_ev ?_)
  simp only [if_true]
  refine Ev.bind (f := fun k t => _) hc0 ?_
  by_cases c : b % 6 = 2
  · have hj := join_ev [[70, 68, 83, 26, 1], List.replicate 11 0, p] (by simp) (by simp; omega)
    have hg := dp_j0 [[70, 68, 83, 26, 1], List.replicate 11 0, p].flatten F (by
      simp only [List.flatten_cons, List.flatten_nil, List.append_nil]
      exact okB_append (fun x hx => by simp at hx; omega) (okB_append (okB_zeros 11) hpt)) (by simp; omega) hF2
    refine Ev.congr (fun k => ?_) (Ev.bind (f := fun k t => kotatsulaw06_DiskParses.j0 k t (F : Int)) hj hg)
    rw [← hY, Option.bind_some, hm, if_pos (by omega), if_pos (by rw [hYl]; omega), if_pos (by omega), if_pos (by omega), hF]
  · refine Ev.congr (fun k => ?_) (dp_j0 p F hpt (by omega) hF2)
    rw [← hY, Option.bind_some, hm, if_pos (by omega), if_pos (by rw [hYl]; omega), if_neg (by omega), hF]

end Go.Proofs.Ythnfmoaiejaheaa.Pure
