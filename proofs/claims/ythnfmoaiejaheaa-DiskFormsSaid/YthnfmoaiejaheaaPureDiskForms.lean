/- DiskForms: sets of sides, of any form, with any bytes in them, have the document's file, of which they are read again: for every input. No condition. -/
import Derived.Test.YthnfmoaiejaheaaPDiskFormsx4
import Derived.Test.YthnfmoaiejaheaaU
-- squeezed
namespace Go.Proofs.Ythnfmoaiejaheaa.Pure
open Go.RowKit Go.Proofs.Ythnfmoaiejaheaa.PDiskForms Go.Proofs.Ythnfmoaiejaheaa.U Go.Proofs.YthnfmoaiejaheaaW.PrintWords Go.Proofs.YthnfmoaiejaheaaW.PrintLast Go.Proofs.YthnfmoaiejaheaaW.PrintMore
set_option linter.unusedVariables false
set_option linter.unusedSimpArgs false

/-! ### disk_each -/
def okB (p : List Int) : Prop := ∀ x ∈ p, 0 ≤ x ∧ x < 256
theorem okB_of {p : List Int} (h : ∀ x ∈ p, (Lit.int .u8 x).wf = true) : okB p := fun x hx => by
 have := h x hx
 simp [Lit.wf, IntKind.min, IntKind.max, IntKind.signed, IntKind.bits] at this
 omega
theorem okB_append {a b : List Int} (ha : okB a) (hb : okB b) : okB (a ++ b) := fun x hx => (List.mem_append.1 hx).elim (ha x) (hb x)
theorem okB_take {a : List Int} (ha : okB a) (n : Nat) : okB (a.take n) := fun x hx => ha x (List.mem_of_mem_take hx)
theorem okB_drop {a : List Int} (ha : okB a) (n : Nat) : okB (a.drop n) := fun x hx => ha x (List.mem_of_mem_drop hx)
theorem okB_zeros (n : Nat) : okB (List.replicate n 0) := fun x hx => by rw [List.eq_of_mem_replicate hx]; omega
theorem str_inj : ∀ (a b : List Int), okB a → okB b → Lib.bytesOf a = Lib.bytesOf b → a = b
 | [], [], _, _, _ => rfl
 | [], _ :: _, _, _, h => by cases h
 | _ :: _, [], _, _, h => by cases h
 | x :: xs, y :: ys, ha, hb, h => by
  have h2 := List.cons.inj h
  have bx := ha x List.mem_cons_self
  have by_ := hb y List.mem_cons_self
  have e2 := congrArg UInt8.toNat h2.1
  rw [UInt8.toNat_ofNat_of_lt' (by simp [UInt8.size]; omega), UInt8.toNat_ofNat_of_lt' (by simp [UInt8.size]; omega)] at e2
  rw [str_inj xs ys (fun z hz => ha z (List.mem_cons_of_mem _ hz)) (fun z hz => hb z (List.mem_cons_of_mem _ hz)) h2.2, show x = y by omega]
theorem str_eq {a b : List Int} (ha : okB a) (hb : okB b) : ((strOfNums a).toList == (strOfNums b).toList) = decide (a = b) := by
 rw [Lib.strOfNums_toList, Lib.strOfNums_toList]
 by_cases h : a = b
 ·subst h; simp
 ·rw [decide_eq_false h]
  exact beq_eq_false_iff_ne.2 (fun e => h (str_inj a b ha hb e))
theorem wadd (a b : Nat) (h : a + b ≤ 1000000) : wrap64 ((a : Int) + (b : Int)) = ((a + b : Nat) : Int) := by rw [w64 (by omega) (by omega)]; omega
theorem wmul (a b : Nat) (h : a * b ≤ 1000000) : wrap64 ((a : Int) * (b : Int)) = ((a * b : Nat) : Int) := by rw [← Int.natCast_mul]; exact w64 (by omega) (by omega)
def eachN (form : Int) : Nat := if form = 3 then 65536 else 65500
theorem each_ev (form : Int) : disk_each.f form = some ((eachN form : Nat) : Int) := by
 unfold disk_each.f eachN
 split <;> rfl
theorem eachN_pos (form : Int) : 65500 ≤ eachN form ∧ eachN form ≤ 65536 := by unfold eachN; split <;> omega
/-- a row in pieces of m -/
def pcs (m : Nat) (q : List Int) (n : Nat) : List (List Int) := (List.range n).map fun j => (q.drop (j * m)).take m
theorem pcs_length (m : Nat) (q : List Int) (n : Nat) : (pcs m q n).length = n := by simp [pcs]
theorem pcs_flatten (m : Nat) (q : List Int) (n : Nat) : (pcs m q n).flatten = q.take (n * m) := by
 induction n with
 | zero => simp [pcs]
 | succ n ih =>
  have : pcs m q (n + 1) = pcs m q n ++ [(q.drop (n * m)).take m] := by unfold pcs; rw [List.range_succ, List.map_append]; rfl
  rw [this, List.flatten_append, ih, Nat.add_mul, Nat.one_mul, List.take_add]
  simp
theorem pcs_get (m : Nat) (q : List Int) (n j : Nat) (hj : j < n) : (pcs m q n)[j]? = some ((q.drop (j * m)).take m) := by simp [pcs, hj]
def cnt (m : Nat) (q : List Int) : Nat := (q.length + m - 1) / m
theorem cnt_mul {m n : Nat} {q : List Int} (hm : 0 < m) (h : q.length = n * m) : cnt m q = n := by
 unfold cnt
 rw [h]
 have e1 : (n * m + m - 1) / m < n + 1 := by
  rw [Nat.div_lt_iff_lt_mul hm, Nat.add_mul, Nat.one_mul]; omega
 have e2 : n ≤ (n * m + m - 1) / m := by
  rw [Nat.le_div_iff_mul_le hm]; omega
 omega
theorem cnt_le {m : Nat} {q : List Int} (hm : 0 < m) : q.length ≤ cnt m q * m := by
 unfold cnt
 have h := Nat.div_add_mod (q.length + m - 1) m
 have h2 := Nat.mod_lt (q.length + m - 1) hm
 rw [Nat.mul_comm] at h
 omega
def allN (m : Nat) (L : List (List Int)) : Bool := L.all fun s => s.length == m
theorem allN_iff {m : Nat} {q : List Int} (hm : 0 < m) : allN m (pcs m q (cnt m q)) = true ↔ q.length = cnt m q * m := by
 constructor
 ·intro h
  have h1 : ((pcs m q (cnt m q)).map List.length) = List.replicate (cnt m q) m := by
   refine List.eq_replicate_iff.2 ⟨by simp [pcs], fun b hb => ?_⟩
   obtain ⟨s, hs, rfl⟩ := List.mem_map.1 hb
   unfold allN at h
   rw [List.all_eq_true] at h
   simpa using h s hs
  have h2 := congrArg List.length (pcs_flatten m q (cnt m q))
  rw [List.length_flatten, h1, List.sum_replicate_nat, List.length_take, Nat.min_eq_right (cnt_le hm)] at h2
  exact h2.symm
 ·intro h
  unfold allN
  rw [List.all_eq_true]
  intro s hs
  unfold pcs at hs
  obtain ⟨j, hj, rfl⟩ := List.mem_map.1 hs
  have hj := List.mem_range.1 hj
  have : (j + 1) * m ≤ cnt m q * m := Nat.mul_le_mul_right m hj
  rw [Nat.add_mul, Nat.one_mul] at this
  simp only [List.length_take, List.length_drop, beq_iff_eq]
  omega

/-! ### disk_Set_Right -/
def fit (form : Int) (L : List (List Int)) : Bool := decide (1 ≤ form ∧ form ≤ 3) && decide (1 ≤ L.length ∧ L.length ≤ 8)
def rightB (form : Int) (L : List (List Int)) : Bool := allN (eachN form) L && fit form L
theorem sright_l0 (form : Int) (L : List (List Int)) (hl : L.length < 1000000000) (d : Nat) : ∀ i : Nat, i + d = L.length →
  Ev (fun k => disk_Set_Right.l0 k L (L.length : Int) (i : Int) form L) (allN (eachN form) (L.drop i) && fit form L) := by
 induction d with
 | zero =>
  intro i hi
  rw [List.drop_eq_nil_of_le (by omega)]
  refine Ev.step (f := fun _ => some (allN (eachN form) [] && fit form L)) (fun k => ?_) (Ev.now _)
  simp only [disk_Set_Right.l0]
  rw [if_neg (by omega)]
  unfold allN fit
  rw [List.all_nil, Bool.true_and]
  by_cases c1 : form ≥ 1
  ·rw [if_pos c1]
   by_cases c2 : form ≤ 3
   ·rw [if_pos c2, decide_eq_true (show 1 ≤ form ∧ form ≤ 3 from ⟨c1, c2⟩), Bool.true_and]
    by_cases c3 : (L.length : Int) ≥ 1
    ·rw [if_pos c3]
     congr 1
     by_cases c4 : L.length ≤ 8
     ·rw [decide_eq_true (show (L.length : Int) ≤ 8 by omega), decide_eq_true (show 1 ≤ L.length ∧ L.length ≤ 8 by omega)]
     ·rw [decide_eq_false (show ¬ (L.length : Int) ≤ 8 by omega), decide_eq_false (show ¬ (1 ≤ L.length ∧ L.length ≤ 8) by omega)]
    ·rw [if_neg c3, decide_eq_false (show ¬ (1 ≤ L.length ∧ L.length ≤ 8) by omega)]
   ·rw [if_neg c2, decide_eq_false (show ¬ (1 ≤ form ∧ form ≤ 3) by omega), Bool.false_and]
  ·rw [if_neg c1, decide_eq_false (show ¬ (1 ≤ form ∧ form ≤ 3) by omega), Bool.false_and]
 | succ d ih =>
  intro i hi
  have hd : L.drop i = rd_L1 L (i : Int) :: L.drop (i + 1) := by
   unfold rd_L1
   rw [List.drop_eq_getElem_cons (by omega), List.getD_eq_getElem?_getD, Int.toNat_natCast, List.getElem?_eq_getElem (by omega)]; rfl
  rw [hd, show allN (eachN form) (rd_L1 L (i : Int) :: L.drop (i + 1)) = ((rd_L1 L (i : Int)).length == eachN form && allN (eachN form) (L.drop (i + 1))) by simp [allN]]
  by_cases c : (rd_L1 L (i : Int)).length = eachN form
  ·rw [beq_iff_eq.2 c, Bool.true_and]
   refine Ev.step (f := fun k => disk_Set_Right.l0 k L (L.length : Int) ((i + 1 : Nat) : Int) form L) (fun k => ?_) (ih (i + 1) (by omega))
   simp only [disk_Set_Right.l0]
   rw [if_pos (by omega), if_pos (by omega), if_pos (by omega), each_ev, Option.bind_some, if_pos (by omega), w64 (by omega) (by omega)]
   rfl
  ·rw [beq_eq_false_iff_ne.2 c, Bool.false_and, Bool.false_and]
   refine Ev.step (f := fun _ => some false) (fun k => ?_) (Ev.now _)
   simp only [disk_Set_Right.l0]
   rw [if_pos (by omega), if_pos (by omega), if_pos (by omega), each_ev, Option.bind_some, if_neg (by omega)]
theorem sright_ev (form : Int) (L : List (List Int)) (hl : L.length < 1000000000) : Ev (fun k => disk_Set_Right.f k form L) (rightB form L) := by
 have := sright_l0 form L hl L.length 0 (by omega)
 simpa [disk_Set_Right.f, rightB] using this

/-! ### disk_Set_Bytes -/
def hd16 (n : Nat) : List Int := [70, 68, 83, 26, (n : Int)] ++ List.replicate 11 0
theorem hd16_length (n : Nat) : (hd16 n).length = 16 := by unfold hd16; simp
def setB (form : Int) (L : List (List Int)) : List Int := if rightB form L = true then (if form = 2 then hd16 L.length ++ L.flatten else L.flatten) else []
theorem concat_ev (L : List (List Int)) (h1 : L.flatten.length ≤ 4398046511104) (h2 : L.length ≤ 4398046511104) : slices_Concat_byte_byte.f L = some L.flatten := by
 unfold slices_Concat_byte_byte.f
 rw [if_pos ⟨by rw [← List.length_flatten]; exact h1, h2⟩]
theorem setB_ev (form : Int) (L : List (List Int)) (h1 : L.flatten.length ≤ 4398046511104) (h2 : L.length < 1000000000) : Ev (fun k => disk_Set_Bytes.f k form L) (setB form L) := by
 unfold disk_Set_Bytes.f setB
 refine Ev.bind (f := fun k t => if t = true then _ else _) (sright_ev form L h2) ?_
 cases hr : rightB form L with
 | false => simp only [Bool.false_eq_true, if_false]; exact Ev.now _
 | true =>
  have h8 : L.length ≤ 8 := by
   unfold rightB fit at hr
   simp only [Bool.and_eq_true, decide_eq_true_eq] at hr
   omega
  simp only [if_true]
  have h1' := h1
  rw [List.length_flatten] at h1'
  by_cases c : form = 2
  ·rw [if_pos c]
   refine Ev.congr (fun k => ?_) (Ev.now _)
   rw [if_pos c, Option.bind_some, if_pos (by simp), Option.bind_some]
   have e : ((L.length : Int)) % 256 = (L.length : Int) := by omega
   have e2 : wrap64 (16 - ((([70, 68, 83, 26] : List Int) ++ [(L.length : Int) % 256]).length : Int)) = 11 := by
    rw [show (([70, 68, 83, 26] : List Int) ++ [(L.length : Int) % 256]).length = 5 by simp, w64 (by omega) (by omega)]; rfl
   rw [e2, if_pos (by omega), if_pos (by simp), Option.bind_some, concat_ev L h1 (by omega), Option.bind_some, if_pos (by simp; omega)]
   congr 1
   unfold hd16
   rw [e]; simp
  ·rw [if_neg c]
   refine Ev.congr (fun k => ?_) (Ev.now _)
   rw [if_neg c, concat_ev L h1 (by omega), Option.bind_some, if_pos (by simp; omega)]
   rfl

/-! ### bytes_Clone -/
theorem clone_f (l : List Int) (h : l.length ≤ 140737488355328) : bytes_Clone.f l = some l := by
 unfold bytes_Clone.f
 rw [if_pos h]

/-! ### disk_Parse -/
def magic (p : List Int) : Prop := 4 ≤ p.length ∧ p.take 4 = [70, 68, 83, 26]
instance (p : List Int) : Decidable (magic p) := by unfold magic; infer_instance
theorem okB_magic : okB [70, 68, 83, 26] := by intro x hx; simp at hx; omega
theorem prefix_ev (p : List Int) (hp : okB p) : bytes_HasPrefix.f p [70, 68, 83, 26] = some (decide (magic p)) := by
 unfold bytes_HasPrefix.f magic
 by_cases c : 4 ≤ p.length
 ·rw [if_pos (by simp; omega), if_pos (by simp), if_pos (by simp; omega)]
  unfold bytes_Equal.f
  rw [Option.bind_some]
  have := str_eq (okB_take hp 4) okB_magic
  simp only [List.length_cons, List.length_nil] at this ⊢
  rw [show ((((0 + 1 + 1 + 1 + 1 : Nat) : Int)).toNat) = 4 from rfl, this]
  simp [c]
 ·rw [if_neg (by simp; omega)]
  simp [c]
theorem cut6_all (form : Int) (q : List Int) (h : q.length ≤ 1099511627776) : disk_cut.f form q = some (form, pcs (eachN form) q (cnt (eachN form) q)) := by
 unfold disk_cut.f
 rw [if_pos h]
 unfold pcs cnt disk_cut.offs eachN
 rw [List.map_map]
 split <;> rfl
theorem okB_hd16 {n : Nat} (h : n < 256) : okB (hd16 n) := by
 unfold hd16
 refine okB_append ?_ (okB_zeros 11)
 intro x hx
 simp at hx
 omega
theorem okB_setB {form : Int} {q : List Int} {L : List (List Int)} (hq : okB q) (h : L.flatten = q) : okB (setB form L) := by
 unfold setB
 rw [h]
 by_cases hr : rightB form L = true
 ·rw [if_pos hr]
  have h8 : L.length ≤ 8 := by
   unfold rightB fit at hr
   simp only [Bool.and_eq_true, decide_eq_true_eq] at hr
   omega
  split
  ·exact okB_append (okB_hd16 (by omega)) hq
  ·exact hq
 ·rw [if_neg hr]
  intro x hx
  cases hx
theorem dparse_j0 (form : Int) (p : List Int) (L : List (List Int)) (q : List Int) (hp : okB p) (hq : okB q) (hL : L.flatten = q) (h1 : q.length ≤ 1099511627776) (h2 : L.length < 1000000000) :
  Ev (fun k => disk_Parse.j0 k p form L) (if rightB form L = true ∧ setB form L = p then (form, L, 0) else (0, [], 2)) := by
 have hb := setB_ev form L (by rw [hL]; omega) h2
 have he : bytes_Equal.f (setB form L) p = some (decide (setB form L = p)) := by
  unfold bytes_Equal.f
  rw [str_eq (okB_setB hq hL) hp]
 refine Ev.step (f := fun k => (disk_Set_Right.f k form L).bind fun t125 => (if t125 = true then ((disk_Set_Bytes.f k form L).bind fun t126 => ((bytes_Equal.f t126 p).bind fun t129 => (if t129 = true then (some (form, L, 0)) else (some (0, ([] : List (List Int)), 2))))) else (some (0, ([] : List (List Int)), 2)))) (fun k => by simp only [disk_Parse.j0]) ?_
 refine Ev.bind (f := fun k t => _) (sright_ev form L h2) ?_
 cases hr : rightB form L with
 | false =>
  simp only [Bool.false_eq_true, if_false, false_and]
  exact Ev.now _
 | true =>
  simp only [if_true, true_and]
  refine Ev.bind (f := fun k t => _) hb ?_
  refine Ev.congr (fun k => ?_) (Ev.now _)
  rw [he, Option.bind_some]
  by_cases c : setB form L = p
  ·rw [if_pos c, decide_eq_true c, if_pos rfl]
  ·rw [if_neg c, decide_eq_false c, if_neg (by decide)]
def formOf (p : List Int) : Int := if magic p then 2 else if p.length % 65536 = 0 then 3 else 1
def bodyOf (p : List Int) : List Int := if magic p then p.drop (min 16 p.length) else p
def sidesOf (p : List Int) : List (List Int) := pcs (eachN (formOf p)) (bodyOf p) (cnt (eachN (formOf p)) (bodyOf p))
theorem bodyOf_le (p : List Int) : (bodyOf p).length ≤ p.length := by unfold bodyOf; split <;> simp
theorem sidesOf_flatten (p : List Int) : (sidesOf p).flatten = bodyOf p := by
 unfold sidesOf
 rw [pcs_flatten, List.take_of_length_le (cnt_le (by have := eachN_pos (formOf p); omega))]
theorem sidesOf_length (p : List Int) : (sidesOf p).length = cnt (eachN (formOf p)) (bodyOf p) := pcs_length _ _ _
theorem cnt_small (m : Nat) (q : List Int) (h : q.length ≤ 1099511627776) (hm : 65500 ≤ m) : cnt m q < 1000000000 := by
 unfold cnt
 rw [Nat.div_lt_iff_lt_mul (by omega)]
 have : 1000000000 * 65500 ≤ 1000000000 * m := Nat.mul_le_mul_left _ hm
 have h3 : q.length + m - 1 < 1099511627776 + m := by omega
 have h4 : 1099511627776 + m ≤ 1000000000 * m := by omega
 omega
theorem okB_body {p : List Int} (h : okB p) : okB (bodyOf p) := by unfold bodyOf; split; exact okB_drop h _; exact h
theorem parse_raw (p : List Int) (hp : okB p) (hl : p.length ≤ 1099511627776) :
  Ev (fun k => disk_Parse.f k p) (if rightB (formOf p) (sidesOf p) = true ∧ setB (formOf p) (sidesOf p) = p then (formOf p, sidesOf p, 0) else (0, [], 2)) := by
 have hb := bodyOf_le p
 have hj := dparse_j0 (formOf p) p (sidesOf p) (bodyOf p) hp (okB_body hp) (sidesOf_flatten p) (by omega) (by rw [sidesOf_length]; exact cnt_small _ _ (by omega) (eachN_pos _).1)
 refine Ev.congr (fun k => ?_) hj
 unfold disk_Parse.f
 rw [prefix_ev p hp, Option.bind_some]
 have hc := cut6_all (formOf p) (bodyOf p) (by omega)
 have hm : mn 16 (p.length : Int) = ((min 16 p.length : Nat) : Int) := by unfold mn; split <;> omega
 unfold sidesOf
 by_cases c : magic p
 ·have ef : formOf p = 2 := by unfold formOf; rw [if_pos c]
  have eb : bodyOf p = p.drop (min 16 p.length) := by unfold bodyOf; rw [if_pos c]
  rw [decide_eq_true c, if_pos rfl, hm, if_pos (by omega), if_pos (by omega), Int.toNat_natCast]
  rw [ef, eb] at hc ⊢
  rw [hc, Option.bind_some]
 ·have eb : bodyOf p = p := by unfold bodyOf; rw [if_neg c]
  rw [decide_eq_false c, if_neg (by decide)]
  by_cases c2 : p.length % 65536 = 0
  ·have ef : formOf p = 3 := by unfold formOf; rw [if_neg c, if_pos c2]
   rw [if_pos (by omega)]
   rw [ef, eb] at hc ⊢
   rw [hc, Option.bind_some]
  ·have ef : formOf p = 1 := by unfold formOf; rw [if_neg c, if_neg c2]
   rw [if_neg (by omega)]
   rw [ef, eb] at hc ⊢
   rw [hc, Option.bind_some]
/-- the document's set -/
def okS (p : List Int) : Prop := ∃ n, 1 ≤ n ∧ n ≤ 8 ∧ (bodyOf p).length = n * eachN (formOf p) ∧ (magic p → p.take 16 = hd16 n)
theorem formOf_range (p : List Int) : 1 ≤ formOf p ∧ formOf p ≤ 3 := by unfold formOf; split; omega; split <;> omega
theorem okS_cnt {p : List Int} {n : Nat} (h : (bodyOf p).length = n * eachN (formOf p)) : (sidesOf p).length = n := by
 rw [sidesOf_length, cnt_mul (by have := eachN_pos (formOf p); omega) h]
theorem okS_iff (p : List Int) : okS p ↔ (rightB (formOf p) (sidesOf p) = true ∧ setB (formOf p) (sidesOf p) = p) := by
 have hpos := eachN_pos (formOf p)
 have hfr := formOf_range p
 have hall : allN (eachN (formOf p)) (sidesOf p) = true ↔ (bodyOf p).length = cnt (eachN (formOf p)) (bodyOf p) * eachN (formOf p) := allN_iff (by omega)
 have hset : rightB (formOf p) (sidesOf p) = true → setB (formOf p) (sidesOf p) = if magic p then hd16 (sidesOf p).length ++ p.drop (min 16 p.length) else p := by
  intro hr
  unfold setB
  rw [if_pos hr, sidesOf_flatten]
  by_cases c : magic p
  ·rw [if_pos c, if_pos (by unfold formOf; rw [if_pos c])]
   unfold bodyOf
   rw [if_pos c]
  ·rw [if_neg c, if_neg (by unfold formOf; rw [if_neg c]; split <;> decide)]
   unfold bodyOf
   rw [if_neg c]
 constructor
 ·rintro ⟨n, h1, h8, hl, hh⟩
  have hn := okS_cnt hl
  have hr : rightB (formOf p) (sidesOf p) = true := by
   unfold rightB fit
   rw [hall.2 (by rw [← sidesOf_length, hn]; exact hl), hn]
   simp only [Bool.true_and, Bool.and_eq_true, decide_eq_true_eq]
   omega
  refine ⟨hr, ?_⟩
  rw [hset hr, hn]
  by_cases c : magic p
  ·rw [if_pos c, ← hh c]
   have h16 : 16 ≤ p.length := by
    have := congrArg List.length (hh c)
    rw [hd16_length, List.length_take] at this
    omega
   rw [Nat.min_eq_left h16, List.take_append_drop]
  ·rw [if_neg c]
 ·rintro ⟨hr, hs⟩
  rw [hset hr] at hs
  unfold rightB fit at hr
  simp only [Bool.and_eq_true, decide_eq_true_eq] at hr
  obtain ⟨ha, hf, hc⟩ := hr
  have hl := hall.1 ha
  rw [← sidesOf_length] at hl
  refine ⟨(sidesOf p).length, hc.1, hc.2, hl, fun c => ?_⟩
  rw [if_pos c] at hs
  have h16 : 16 ≤ p.length := by
   have := congrArg List.length hs
   rw [List.length_append, hd16_length] at this
   omega
  rw [← hs, List.take_append_of_le_length (by rw [hd16_length]; omega), List.take_of_length_le (by rw [hd16_length]; omega)]
  rw [hs]
noncomputable def parsed (p : List Int) : Int × List (List Int) × Int := open Classical in if okS p then (formOf p, sidesOf p, 0) else (0, [], 2)
theorem dparse_ev (p : List Int) (hp : okB p) (hl : p.length ≤ 1099511627776) : Ev (fun k => disk_Parse.f k p) (parsed p) := by
 have h := parse_raw p hp hl
 unfold parsed
 by_cases c : okS p
 ·rw [if_pos ((okS_iff p).1 c)] at h
  rw [if_pos c]
  exact h
 ·rw [if_neg (fun h2 => c ((okS_iff p).2 h2))] at h
  rw [if_neg c]
  exact h

/-! ### kotatsulaw06_awake -/
theorem plain_zeros (z : List Int) (hz : z = List.replicate 65500 0) : formOf z = 1 ∧ okS z ∧ bodyOf z = z ∧ ¬ magic z := by
 have hl : z.length = 65500 := by rw [hz, List.length_replicate]
 have hm : ¬ magic z := by
  rintro ⟨_, h⟩
  rw [hz, List.take_replicate] at h
  have := congrArg (fun l => l.getD 0 0) h
  simp [show min 4 65500 = 4 from rfl, List.replicate] at this
 have hf : formOf z = 1 := by unfold formOf; rw [if_neg hm, if_neg (by omega)]
 have hb : bodyOf z = z := by unfold bodyOf; rw [if_neg hm]
 exact ⟨hf, ⟨1, by omega, by omega, by rw [hb, hl, hf]; rfl, fun h => absurd h hm⟩, hb, hm⟩
theorem awake_ev : Ev (fun k => kotatsulaw06_awake.f k) true := by
 unfold kotatsulaw06_awake.f
 obtain ⟨z, hz⟩ : ∃ z : List Int, z = List.replicate 65500 0 := ⟨_, rfl⟩
 obtain ⟨hf, hk, hb, _⟩ := plain_zeros z hz
 have hl : z.length = 65500 := by rw [hz, List.length_replicate]
 have hp := dparse_ev z (by rw [hz]; exact okB_zeros _) (by omega)
 have hs : (sidesOf z).length = 1 := okS_cnt (n := 1) (by rw [hb, hl, hf]; rfl)
 unfold parsed at hp
 rw [if_pos hk, hf] at hp
 rw [← hz]
 refine Ev.congr (fun k => if_pos (by decide)) ?_
 refine Ev.bind (f := fun k t => _) hp ?_
 refine Ev.congr (fun k => ?_) (Ev.now _)
 dsimp only
 rw [if_pos rfl, if_pos rfl, hs]
 rfl

/-! ### kotatsuref01_Join -/
theorem join_l0 (L : List (List Int)) (hl : L.length < 1000000000) (hsum : L.flatten.length < 140737488355328) (d : Nat) : ∀ i : Nat, i + d = L.length →
  Ev (fun k => kotatsuref01_Join.l0 k (L.take i).flatten L (L.length : Int) (i : Int)) L.flatten := by
 induction d with
 | zero =>
  intro i hi
  rw [List.take_of_length_le (by omega)]
  refine Ev.step (f := fun _ => some L.flatten) (fun k => ?_) (Ev.now _)
  simp only [kotatsuref01_Join.l0]
  rw [if_neg (by omega)]
 | succ d ih =>
  intro i hi
  have e : (L.take (i + 1)).flatten = (L.take i).flatten ++ rd_L1 L (i : Int) := by
   rw [List.take_succ_eq_append_getElem (by omega), List.flatten_append]
   unfold rd_L1
   rw [List.getD_eq_getElem?_getD, Int.toNat_natCast, List.getElem?_eq_getElem (by omega)]
   simp
  have hle : ((L.take (i + 1)).flatten).length ≤ L.flatten.length := by
   have : L.flatten = (L.take (i + 1)).flatten ++ (L.drop (i + 1)).flatten := by rw [← List.flatten_append, List.take_append_drop]
   rw [this, List.length_append]; omega
  rw [e, List.length_append] at hle
  have h1 := ih (i + 1) (by omega)
  rw [e] at h1
  refine Ev.step (f := fun k => kotatsuref01_Join.l0 k ((L.take i).flatten ++ rd_L1 L (i : Int)) L (L.length : Int) ((i + 1 : Nat) : Int)) (fun k => ?_) h1
  simp only [kotatsuref01_Join.l0]
  rw [if_pos (by omega), if_pos (by omega), if_pos (by omega), if_pos (by omega), w64 (by omega) (by omega)]
  rfl
theorem join_ev (L : List (List Int)) (hl : L.length < 1000000000) (hsum : L.flatten.length < 140737488355328) : Ev (fun k => kotatsuref01_Join.f k L) L.flatten := by
 have := join_l0 L hl hsum L.length 0 (by omega)
 simpa [kotatsuref01_Join.f] using this

/-! ### kotatsuref01_Same -/
theorem same_l0 (a b : List Int) (hl : a.length = b.length) (hm : a.length ≤ 140737488355328) (d : Nat) : ∀ i : Nat, i + d = a.length →
  Ev (fun k => kotatsuref01_Same.l0 k a b (a.length : Int) (i : Int)) (decide (a.drop i = b.drop i)) := by
 induction d with
 | zero =>
  intro i hi
  rw [List.drop_eq_nil_of_le (by omega), List.drop_eq_nil_of_le (by omega)]
  refine Ev.step (f := fun _ => some true) (fun k => ?_) (Ev.now _)
  simp only [kotatsuref01_Same.l0]
  rw [if_neg (by omega)]
 | succ d ih =>
  intro i hi
  have ha : a.drop i = rd a (i : Int) :: a.drop (i + 1) := by
   unfold rd
   rw [List.drop_eq_getElem_cons (by omega), List.getD_eq_getElem?_getD, Int.toNat_natCast, List.getElem?_eq_getElem (by omega)]; rfl
  have hb : b.drop i = rd b (i : Int) :: b.drop (i + 1) := by
   unfold rd
   rw [List.drop_eq_getElem_cons (by omega), List.getD_eq_getElem?_getD, Int.toNat_natCast, List.getElem?_eq_getElem (by omega)]; rfl
  by_cases c : rd a (i : Int) = rd b (i : Int)
  ·have h1 := ih (i + 1) (by omega)
   have e : decide (a.drop i = b.drop i) = decide (a.drop (i + 1) = b.drop (i + 1)) := by
    rw [ha, hb, c]; simp
   rw [e]
   refine Ev.step (f := fun k => kotatsuref01_Same.l0 k a b (a.length : Int) ((i + 1 : Nat) : Int)) (fun k => ?_) h1
   simp only [kotatsuref01_Same.l0]
   rw [if_pos (by omega), if_pos (by omega), if_pos (by omega), if_pos (by omega), if_pos c, w64 (by omega) (by omega)]
   rfl
  ·have e : decide (a.drop i = b.drop i) = false := by
    rw [ha, hb]; simp [c]
   rw [e]
   refine Ev.step (f := fun _ => some false) (fun k => ?_) (Ev.now _)
   simp only [kotatsuref01_Same.l0]
   rw [if_pos (by omega), if_pos (by omega), if_pos (by omega), if_pos (by omega), if_neg c]
theorem same_ev (a b : List Int) (hm : a.length ≤ 140737488355328) : Ev (fun k => kotatsuref01_Same.f k a b) (decide (a = b)) := by
 unfold kotatsuref01_Same.f
 by_cases c : a.length = b.length
 ·have := same_l0 a b c hm a.length 0 (by omega)
  refine Ev.congr (fun k => ?_) this
  rw [if_pos (by omega)]
  rfl
 ·have e : decide (a = b) = false := decide_eq_false (fun h => c (by rw [h]))
  rw [e]
  refine Ev.congr (fun k => ?_) (Ev.now _)
  rw [if_neg (by omega)]

theorem df_form (a : Nat) : ((1 : Int) + (Int.tmod (a : Int) 3)) % 256 = ((1 + a % 3 : Nat) : Int) := by
 rw [show Int.tmod (a : Int) 3 = ((a % 3 : Nat) : Int) from rfl]
 omega
/-- a side of m bytes, of which each is nought or one and the same -/
def Flat1 (m : Nat) (s : List Int) : Prop := s.length = m ∧ ∃ c : Int, 0 ≤ c ∧ c < 256 ∧ ∀ x ∈ s, x = 0 ∨ x = c
theorem Flat1.okB {m : Nat} {s : List Int} (h : Flat1 m s) : okB s := by
 obtain ⟨_, c, h0, h1, h2⟩ := h
 intro x hx
 rcases h2 x hx with h | h <;> omega
theorem dsm_refl : ∀ L : List (List Int), disk_Same.sm L L = true
 | [] => rfl
 | x :: xs => by
  unfold disk_Same.sm
  rw [dsm_refl xs, Bool.and_true]
  unfold disk_Same.eqS
  simp
theorem pcs_of (m : Nat) : ∀ L : List (List Int), (∀ s ∈ L, s.length = m) → pcs m L.flatten L.length = L
 | [], _ => rfl
 | s :: L, h => by
  have hs := h s List.mem_cons_self
  have ih := pcs_of m L (fun x hx => h x (List.mem_cons_of_mem _ hx))
  unfold pcs at ih ⊢
  rw [List.length_cons, List.range_succ_eq_map, List.map_cons, List.map_map, List.flatten_cons]
  congr 1
  ·rw [Nat.zero_mul, List.drop_zero, ← hs, List.take_left]
  ·refine Eq.trans (List.map_congr_left (fun j _ => ?_)) ih
   show ((s ++ L.flatten).drop ((j + 1) * m)).take m = (L.flatten.drop (j * m)).take m
   rw [Nat.add_mul, Nat.one_mul, Nat.add_comm, ← hs, ← List.drop_drop, List.drop_left]
theorem flat_len_of (m : Nat) (L : List (List Int)) (h : ∀ s ∈ L, s.length = m) : L.flatten.length = L.length * m := by
 induction L with
 | nil => simp
 | cons s L ih =>
  rw [List.flatten_cons, List.length_append, h s List.mem_cons_self, ih (fun x hx => h x (List.mem_cons_of_mem _ hx)), List.length_cons, Nat.add_mul, Nat.one_mul, Nat.add_comm]
theorem df_magic (m : Nat) (hm : 4 ≤ m) (L : List (List Int)) (h : ∀ s ∈ L, Flat1 m s) : ¬ magic L.flatten := by
 rintro ⟨h4, h5⟩
 cases L with
 | nil => simp at h4
 | cons s L =>
  obtain ⟨hl, c, _, _, h2⟩ := h s List.mem_cons_self
  rw [List.flatten_cons, List.take_append_of_le_length (by omega)] at h5
  have h70 : (70 : Int) ∈ s := List.mem_of_mem_take (i := 4) (by rw [h5]; simp)
  have h68 : (68 : Int) ∈ s := List.mem_of_mem_take (i := 4) (by rw [h5]; simp)
  rcases h2 _ h70 with h | h <;> rcases h2 _ h68 with h' | h' <;> omega
/-- the file, and what it is read as -/
theorem df_file (f m : Nat) (f1 : 1 ≤ f) (f3 : f ≤ 3) (hm : m = eachN (f : Int)) (L : List (List Int)) (hL : ∀ s ∈ L, Flat1 m s) (n1 : 1 ≤ L.length) (n3 : L.length ≤ 3) :
  ∃ F, setB (f : Int) L = F ∧ F = (if f = 2 then hd16 L.length ++ L.flatten else L.flatten) ∧ rightB (f : Int) L = true ∧ okB F ∧ F.length ≤ 1000000 ∧ 4 ≤ F.length ∧ parsed F = ((f : Int), L, 0) := by
 have hpos := eachN_pos (f : Int)
 have hlen : ∀ s ∈ L, s.length = m := fun s hs => (hL s hs).1
 have hfl := flat_len_of m L hlen
 have hr : rightB (f : Int) L = true := by
  unfold rightB allN fit
  rw [Bool.and_eq_true, Bool.and_eq_true, List.all_eq_true]
  refine ⟨fun s hs => ?_, decide_eq_true ⟨by omega, by omega⟩, decide_eq_true ⟨n1, by omega⟩⟩
  rw [hlen s hs, hm]
  exact beq_self_eq_true _
 have hset : setB (f : Int) L = (if f = 2 then hd16 L.length ++ L.flatten else L.flatten) := by
  unfold setB
  rw [if_pos hr]
  by_cases c : f = 2
  ·rw [if_pos c, if_pos (by omega)]
  ·rw [if_neg c, if_neg (by omega)]
 have hob : okB L.flatten := by
  intro x hx
  obtain ⟨s, hs, hx⟩ := List.mem_flatten.1 hx
  exact (hL s hs).okB x hx
 have hnm : L.length * m ≤ 3 * 65536 := Nat.mul_le_mul n3 (by omega)
 have hm1 : 1 * m ≤ L.length * m := Nat.mul_le_mul_right m n1
 refine ⟨_, rfl, hset, hr, ?_, ?_, ?_, ?_⟩
 ·rw [hset]
  split
  ·exact okB_append (okB_hd16 (by omega)) hob
  ·exact hob
 ·rw [hset]
  split
  ·rw [List.length_append, hd16_length]; omega
  ·omega
 ·rw [hset]
  split
  ·rw [List.length_append, hd16_length]; omega
  ·omega
 ·have key : ∀ F : List Int, formOf F = (f : Int) → bodyOf F = L.flatten → (magic F → F.take 16 = hd16 L.length) → parsed F = ((f : Int), L, 0) := by
   intro F e1 e2 e3
   have hb : (bodyOf F).length = L.length * eachN (formOf F) := by rw [e2, hfl, e1, hm]
   have hs : sidesOf F = L := by
    unfold sidesOf
    rw [cnt_mul (by rw [e1]; omega) hb, e1, e2, ← hm]
    exact pcs_of m L hlen
   unfold parsed
   rw [if_pos (show okS F from ⟨L.length, n1, by omega, hb, e3⟩), e1, hs]
  rw [hset]
  by_cases c : f = 2
  ·rw [if_pos c]
   have hmg : magic (hd16 L.length ++ L.flatten) := by
    refine ⟨by rw [List.length_append, hd16_length]; omega, ?_⟩
    rw [List.take_append_of_le_length (by rw [hd16_length]; omega)]
    rfl
   refine key _ ?_ ?_ (fun _ => ?_)
   ·unfold formOf; rw [if_pos hmg, c]; rfl
   ·unfold bodyOf
    rw [if_pos hmg, show min 16 (hd16 L.length ++ L.flatten).length = (hd16 L.length).length by rw [List.length_append, hd16_length]; omega, List.drop_left]
   ·rw [show 16 = (hd16 L.length).length from (hd16_length _).symm, List.take_left]
  ·rw [if_neg c]
   have hmg := df_magic m (by omega) L hL
   refine key _ ?_ (by unfold bodyOf; rw [if_neg hmg]) (fun h => absurd h hmg)
   unfold formOf
   rw [if_neg hmg, hfl]
   by_cases c3 : f = 3
   ·have e : m = 65536 := by rw [hm]; unfold eachN; rw [if_pos (by omega)]
    rw [if_pos (by rw [e, Nat.mul_mod_left]), c3]; rfl
   ·have e : m = 65500 := by rw [hm]; unfold eachN; rw [if_neg (by omega)]
    rw [if_neg (by rw [e]; omega)]
    omega
theorem df_j4 (f m : Nat) (f1 : 1 ≤ f) (f3 : f ≤ 3) (hm : m = eachN (f : Int)) (L : List (List Int)) (hL : ∀ s ∈ L, Flat1 m s) (n1 : 1 ≤ L.length) (n3 : L.length ≤ 3) (F : List Int) (hF : setB (f : Int) L = F) (b : Bool) :
  Ev (fun k => kotatsulaw06_DiskForms.j4 k F F b (f : Int) L) true := by
 obtain ⟨F', e1, _, hr, hob, hl, _, hp⟩ := df_file f m f1 f3 hm L hL n1 n3
 rw [e1] at hF
 subst hF
 cases b with
 | true =>
  refine Ev.step (f := fun _ => some true) (fun k => ?_) (Ev.now _)
  simp only [kotatsulaw06_DiskForms.j4]
  rfl
 | false =>
  have hpe := dparse_ev F' hob (by omega)
  rw [hp] at hpe
  have hre := sright_ev (f : Int) L (by omega)
  rw [hr] at hre
  have hs := same_ev F' F' (by omega)
  rw [decide_eq_true rfl] at hs
  have hd : disk_Same.f (f : Int) L (f : Int) L = some true := by
   unfold disk_Same.f
   rw [dsm_refl, Bool.and_true, beq_self_eq_true]
  refine Ev.step (f := fun k => (disk_Parse.f k F').bind fun bt184 => ((disk_Set_Right.f k (f : Int) L).bind fun t190 => (if t190 = true then ((kotatsuref01_Same.f k F' F').bind fun t191 => (if t191 = true then (if bt184.2.2 = 0 then ((disk_Same.f bt184.1 bt184.2.1 (f : Int) L).bind fun t192 => (some t192)) else (some false)) else (some false))) else (some false)))) (fun k => ?_) (Ev.bind (f := fun k t => _) hpe (Ev.bind (f := fun k t => _) hre ?_))
  ·simp only [kotatsulaw06_DiskForms.j4]
   rw [if_neg (by decide)]
  ·simp only [if_true]
   refine Ev.bind (f := fun k t => _) hs ?_
   refine Ev.congr (fun k => ?_) (Ev.now true)
   simp only [if_true]
   rw [hd, Option.bind_some]
theorem df_end (f m : Nat) (f1 : 1 ≤ f) (f3 : f ≤ 3) (hm : m = eachN (f : Int)) (L : List (List Int)) (hL : ∀ s ∈ L, Flat1 m s) (n1 : 1 ≤ L.length) (n3 : L.length ≤ 3) :
  Ev (fun k => (disk_Set_Bytes.f k (f : Int) L).bind fun t155 => ((kotatsuref01_Join.f k L).bind fun t158 => (if (f : Int) = 2 then ((some (([70, 68, 83, 26] : List Int) : List Int)).bind fun y161 => (if y161.length + 0 < 140737488355328 then (if 11 ≤ 281474976710656 then ((kotatsuref01_Join.f k (([(y161), (([((L.length : Int)) % 256] : List Int)), (List.replicate 11 0), t158] : List (List Int)))).bind fun t176 => (kotatsulaw06_DiskForms.j3 k t155 t176 (f : Int) L)) else (none)) else (none))) else (kotatsulaw06_DiskForms.j3 k t155 t158 (f : Int) L)))) true := by
 obtain ⟨F, e1, e2, hr, hob, hl, h4, hp⟩ := df_file f m f1 f3 hm L hL n1 n3
 have hpos := eachN_pos (f : Int)
 have hfl := flat_len_of m L (fun s hs => (hL s hs).1)
 have hnm : L.length * m ≤ 3 * 65536 := Nat.mul_le_mul n3 (by omega)
 have hb := setB_ev (f : Int) L (by omega) (by omega)
 rw [e1] at hb
 have hj := join_ev L (by omega) (by omega)
 have hj3 : ∀ b, Ev (fun k => kotatsulaw06_DiskForms.j4 k F F b (f : Int) L) true := df_j4 f m f1 f3 hm L hL n1 n3 F e1
 have h3 : Ev (fun k => kotatsulaw06_DiskForms.j3 k F F (f : Int) L) true := by
  by_cases c : f = 1
  ·refine Ev.step (f := fun k => kotatsulaw06_DiskForms.j4 k F F ((strOfNums (F.take 4)).toList == ([70, 68, 83, 26] : List UInt8)) (f : Int) L) (fun k => ?_) (hj3 _)
   simp only [kotatsulaw06_DiskForms.j3]
   rw [if_pos (by omega), if_pos (by omega)]
  ·refine Ev.step (f := fun k => kotatsulaw06_DiskForms.j4 k F F false (f : Int) L) (fun k => ?_) (hj3 _)
   simp only [kotatsulaw06_DiskForms.j3]
   rw [if_neg (by omega)]
 refine Ev.bind (f := fun k t => _) hb (Ev.bind (f := fun k t => _) hj ?_)
 by_cases c : f = 2
 ·rw [if_pos c] at e2
  have hj2 := join_ev [[70, 68, 83, 26], [((L.length : Int)) % 256], List.replicate 11 0, L.flatten] (by simp) (by
   rw [List.flatten_cons, List.flatten_cons, List.flatten_cons, List.flatten_cons, List.flatten_nil, List.append_nil, List.length_append, List.length_append, List.length_append, hfl, List.length_replicate]
   simp only [List.length_cons, List.length_nil]
   omega)
  have e3 : [[70, 68, 83, 26], [((L.length : Int)) % 256], List.replicate 11 0, L.flatten].flatten = F := by
   rw [e2]
   unfold hd16
   rw [show ((L.length : Int)) % 256 = (L.length : Int) by omega]
   simp only [List.flatten_cons, List.flatten_nil, List.append_nil, List.append_assoc, List.cons_append, List.nil_append]
  rw [e3] at hj2
  refine Ev.congr (fun k => ?_) (Ev.bind (f := fun k t => kotatsulaw06_DiskForms.j3 k F t (f : Int) L) hj2 h3)
  rw [if_pos (by omega), Option.bind_some, if_pos (by simp), if_pos (by decide)]
 ·rw [if_neg c] at e2
  refine Ev.congr (fun k => ?_) h3
  rw [if_neg (by omega), ← e2]
theorem df_l1 (at_ : List Int) (hat : ∀ x ∈ at_, 0 ≤ x ∧ x < 4294967296) (hatl : at_.length ≤ 9223372036854775806) (b n i f m : Nat) (hm : 65500 ≤ m ∧ m ≤ 65536) (L : List (List Int)) (hLl : L.length < 1000)
  (R : ∀ s, Flat1 m s → Ev (fun k => kotatsulaw06_DiskForms.l0 k at_ (b : Int) (m : Int) (n : Int) (wrap64 ((i : Int) + 1)) (f : Int) (L ++ [s])) true) (d : Nat) : ∀ (t : Nat) (s : List Int), t + d = at_.length → s.length = m → (∀ x ∈ s, x = 0 ∨ x = ((b : Int) + ((i : Int) % 256)) % 256) →
  Ev (fun k => kotatsulaw06_DiskForms.l1 k at_ (b : Int) (m : Int) (i : Int) s (n : Int) (i : Int) at_ (at_.length : Int) (t : Int) (f : Int) L) true := by
 induction d with
 | zero =>
  intro t s ht hs hv
  have h1 := R s ⟨hs, ((b : Int) + ((i : Int) % 256)) % 256, by omega, by omega, hv⟩
  refine Ev.step (fun k => ?_) h1
  simp only [kotatsulaw06_DiskForms.l1]
  rw [if_neg (by omega), if_pos (by omega)]
 | succ d ih =>
  intro t s ht hs hv
  have htl : t < at_.length := by omega
  by_cases c9 : t < 9
  ·obtain ⟨v, hv2⟩ : ∃ v : Nat, rd at_ (t : Int) = (v : Int) := by
    have := hat (rd at_ (t : Int)) (by
     unfold rd
     rw [Int.toNat_natCast, List.getD_eq_getElem?_getD, List.getElem?_eq_getElem htl]
     exact List.getElem_mem _)
    exact ⟨(rd at_ (t : Int)).toNat, by omega⟩
   have hlt : v % m < m := Nat.mod_lt _ (by omega)
   have e1 : ((m : Int)) % 4294967296 = (m : Int) := by omega
   obtain ⟨z, e2, hz⟩ : ∃ z : Nat, Aside0 (wrap64 (Int.tmod (v : Int) (m : Int)) = (z : Int)) ∧ z < m := ⟨v % m, ⟨by
    rw [show Int.tmod (v : Int) (m : Int) = ((v % m : Nat) : Int) from rfl]
    generalize v % m = z at *
    exact w64 (by omega) (by omega)⟩, hlt⟩
   clear hlt
   have h1 := ih (t + 1) (s.set z (((b : Int) + ((i : Int) % 256)) % 256)) (by omega) (by rw [List.length_set]; exact hs) (fun x hx => by
    rcases List.mem_or_eq_of_mem_set hx with h | h
    ·exact hv x h
    ·exact .inr h)
   have q1 : (0 : Int) ≤ (z : Int) := by omega
   have q2 : (z : Int) < (s.length : Int) := by omega
   refine Ev.step (fun k => ?_) h1
   simp only [kotatsulaw06_DiskForms.l1]
   rw [if_pos (by omega), if_pos (by omega), if_pos (by omega), if_pos (by omega), e1, if_neg (by omega), hv2, e2.out, if_pos q1, if_pos q2, Int.toNat_natCast, w64 (by omega) (by omega)]
   rfl
  ·have h1 := ih (t + 1) s (by omega) hs hv
   refine Ev.step (fun k => ?_) h1
   simp only [kotatsulaw06_DiskForms.l1]
   rw [if_pos (by omega), if_pos (by omega), if_pos (by omega), if_neg (by omega), w64 (by omega) (by omega)]
   rfl
theorem df_l0 (at_ : List Int) (hat : ∀ x ∈ at_, 0 ≤ x ∧ x < 4294967296) (hatl : at_.length ≤ 9223372036854775806) (b n f m : Nat) (f1 : 1 ≤ f) (f3 : f ≤ 3) (hm : m = eachN (f : Int)) (n1 : 1 ≤ n) (n3 : n ≤ 3) (d : Nat) : ∀ (i : Nat) (L : List (List Int)), i + d = n → L.length = i → (∀ s ∈ L, Flat1 m s) →
  Ev (fun k => kotatsulaw06_DiskForms.l0 k at_ (b : Int) (m : Int) (n : Int) (i : Int) (f : Int) L) true := by
 have hpos := eachN_pos (f : Int)
 induction d with
 | zero =>
  intro i L hi hl hL
  refine Ev.step (fun k => ?_) (df_end f m f1 f3 hm L hL (by omega) (by omega))
  simp only [kotatsulaw06_DiskForms.l0]
  rw [if_neg (by omega)]
 | succ d ih =>
  intro i L hi hl hL
  have h1 := df_l1 at_ hat hatl b n i f m (by omega) L (by omega) (fun s hs => by
   have h2 := ih (i + 1) (L ++ [s]) (by omega) (by rw [List.length_append, hl]; rfl) (fun x hx => by
    rcases List.mem_append.1 hx with hx | hx
    ·exact hL x hx
    ·rw [List.mem_singleton.1 hx]; exact hs)
   rw [w64 (by omega) (by omega)]
   exact h2) at_.length 0 (List.replicate m 0) (by omega) List.length_replicate (fun x hx => .inl (List.eq_of_mem_replicate hx))
  refine Ev.step (fun k => ?_) h1
  simp only [kotatsulaw06_DiskForms.l0]
  rw [if_pos (by omega), if_pos (by omega), Int.toNat_natCast, if_pos (by omega)]
  rfl
theorem DiskForms : kotatsulaw06_DiskForms.Pure := by
 intro a0 a1 l2 a3 h0 h1 _ hl2 hb h3
 simp [Lit.wf, IntKind.min, IntKind.max, IntKind.signed, IntKind.bits] at h0 h1 h3
 have hat : ∀ x ∈ l2, 0 ≤ x ∧ x < 4294967296 := fun x hx => by
  have := hb x hx
  simp [Lit.wf, IntKind.min, IntKind.max, IntKind.signed, IntKind.bits] at this
  omega
 obtain ⟨a, rfl⟩ := Int.eq_ofNat_of_zero_le h0.1
 obtain ⟨c, rfl⟩ := Int.eq_ofNat_of_zero_le h1.1
 obtain ⟨b, rfl⟩ := Int.eq_ofNat_of_zero_le h3.1
 have fa := df_form a
 have p1 : 1 ≤ 1 + a % 3 ∧ 1 + a % 3 ≤ 3 := by omega
 have hn : wrap64 (1 + (wrap64 (Int.tmod (c : Int) 3))) = ((1 + c % 3 : Nat) : Int) := by
  rw [show Int.tmod (c : Int) 3 = ((c % 3 : Nat) : Int) from rfl, w64 (n := ((c % 3 : Nat) : Int)) (by omega) (by omega), w64 (by omega) (by omega)]
  omega
 have p2 : 1 ≤ 1 + c % 3 ∧ 1 + c % 3 ≤ 3 := by omega
 generalize 1 + a % 3 = f at *
 generalize 1 + c % 3 = n at *
 have hgo : ∀ m : Nat, m = eachN (f : Int) → Ev (fun k => kotatsulaw06_DiskForms.j0 k (c : Int) l2 (b : Int) (m : Int) (f : Int)) true := by
  intro m hm
  have h := df_l0 l2 hat (by omega) b n f m p1.1 p1.2 hm p2.1 p2.2 n 0 [] (by omega) rfl (fun s hs => by cases hs)
  refine Ev.step (fun k => ?_) h
  simp only [kotatsulaw06_DiskForms.j0]
  rw [hn]
  rfl
 refine Ev.rounds (Ev.bind (f := fun k t => if t = true then _ else _) awake_ev ?_)
 simp only [if_true]
 rw [fa]
 by_cases c3 : f = 3
 ·simp only [if_pos (show (f : Int) = 3 by omega)]
  exact hgo 65536 (by unfold eachN; rw [if_pos (by omega)])
 ·simp only [if_neg (show ¬ (f : Int) = 3 by omega)]
  exact hgo 65500 (by unfold eachN; rw [if_neg (by omega)])

end Go.Proofs.Ythnfmoaiejaheaa.Pure
