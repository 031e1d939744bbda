/-
  CUT, JOIN, SAME: the printed contracts with their plain answers. By the prover of this repo.
-/
import Derived.Test.YtmfdmfflbdghfaaDrvC
import Derived.Test.YtmfdmfflbdghfaaPDriveLaysx1
import Derived.Test.YtmfdmfflbdghfaaU
namespace Go.Proofs.Ytmfdmfflbdghfaa.Pure
open Go.RowKit Go.Proofs.Ytmfdmfflbdghfaa.PDriveLays Go.Proofs.Ytmfdmfflbdghfaa.U Go.Proofs.YtmfdmfflbdghfaaW.PrintWords Go.Proofs.YtmfdmfflbdghfaaW.PrintLast Go.Proofs.YtmfdmfflbdghfaaW.PrintMore
set_option linter.unusedVariables false
set_option linter.unusedSimpArgs false
/-! ### kotatsuref01_Cut -/
theorem cut_l0 (l : List Int) (m : Nat) (hm : m < 100000) (hl : l.length ≤ 140737488351232) (d : Nat) : ∀ i : Nat, i + d = l.length → Ev (fun k => kotatsuref01_Cut.l0 k (m : Int) ((l.take i).take m) l (l.length : Int) (i : Int)) (l.take m) := by
  induction d with
  | zero =>
    intro i hi
    refine Ev.step (f := fun _ => some (l.take m)) (fun k => ?_) (Ev.now _)
    simp only [kotatsuref01_Cut.l0]
    rw [if_neg (by omega), List.take_of_length_le (show l.length ≤ i by omega)]
  | succ d ih =>
    intro i hi
    have hn := ih (i + 1) (by omega)
    have hlen : ((l.take i).take m).length ≤ i := by simp only [List.length_take]; omega
    have hget : l.take (i + 1) = l.take i ++ [rd l (i : Int)] := by
      unfold rd
      rw [List.take_succ_eq_append_getElem (by omega), List.getD_eq_getElem?_getD, Int.toNat_natCast, List.getElem?_eq_getElem (by omega)]; rfl
    by_cases c : i < m
    · refine Ev.step (f := fun k => kotatsuref01_Cut.l0 k (m : Int) ((l.take (i + 1)).take m) l (l.length : Int) ((i + 1 : Nat) : Int)) (fun k => ?_) hn
      simp only [kotatsuref01_Cut.l0]
      rw [if_pos (by omega), if_pos (by omega), if_pos (by omega), if_pos (by omega), if_pos (by omega), w64 (by omega) (by omega)]
      have e : (l.take (i + 1)).take m = (l.take i).take m ++ [rd l (i : Int)] := by
        rw [hget, List.take_append, List.take_of_length_le (l := [rd l (i : Int)]) (by simp only [List.length_take, List.length_cons, List.length_nil]; omega)]
      rw [e]; rfl
    · refine Ev.step (f := fun k => kotatsuref01_Cut.l0 k (m : Int) ((l.take (i + 1)).take m) l (l.length : Int) ((i + 1 : Nat) : Int)) (fun k => ?_) hn
      simp only [kotatsuref01_Cut.l0]
      rw [if_pos (by omega), if_pos (by omega), if_pos (by omega), if_neg (by omega), w64 (by omega) (by omega)]
      have e : (l.take (i + 1)).take m = (l.take i).take m := by
        rw [List.take_take, List.take_take]; congr 1; omega
      rw [e]; rfl
theorem cut_ev (l : List Int) (m : Nat) (hm : m < 100000) (hl : l.length ≤ 140737488351232) : Ev (fun k => kotatsuref01_Cut.f k l (m : Int)) (l.take m) := by
  have := cut_l0 l m hm hl l.length 0 (by omega)
  simpa [kotatsuref01_Cut.f] using this
/-! ### kotatsuref01_Join -/
theorem join_l0 (L : List (List Int)) (hl : L.length < 1000000000) (hsum : L.flatten.length < 140737488355328) (d : Nat) : ∀ i : Nat, i + d = L.length →
    Ev (fun k => kotatsuref01_Join.l0 k (L.take i).flatten L (L.length : Int) (i : Int)) L.flatten := by
  induction d with
  | zero =>
    intro i hi
    rw [List.take_of_length_le (by omega)]
    refine Ev.step (f := fun _ => some L.flatten) (fun k => ?_) (Ev.now _)
    simp only [kotatsuref01_Join.l0]
    rw [if_neg (by omega)]
  | succ d ih =>
    intro i hi
    have e : (L.take (i + 1)).flatten = (L.take i).flatten ++ rd_L1 L (i : Int) := by
      rw [List.take_succ_eq_append_getElem (by omega), List.flatten_append]
      unfold rd_L1
      rw [List.getD_eq_getElem?_getD, Int.toNat_natCast, List.getElem?_eq_getElem (by omega)]
      simp
    have hle : ((L.take (i + 1)).flatten).length ≤ L.flatten.length := by
      have : L.flatten = (L.take (i + 1)).flatten ++ (L.drop (i + 1)).flatten := by rw [← List.flatten_append, List.take_append_drop]
      rw [this, List.length_append]; omega
    rw [e, List.length_append] at hle
    have h1 := ih (i + 1) (by omega)
    rw [e] at h1
    refine Ev.step (f := fun k => kotatsuref01_Join.l0 k ((L.take i).flatten ++ rd_L1 L (i : Int)) L (L.length : Int) ((i + 1 : Nat) : Int)) (fun k => ?_) h1
    simp only [kotatsuref01_Join.l0]
    rw [if_pos (by omega), if_pos (by omega), if_pos (by omega), if_pos (by omega), w64 (by omega) (by omega)]
    rfl
theorem join_ev (L : List (List Int)) (hl : L.length < 1000000000) (hsum : L.flatten.length < 140737488355328) : Ev (fun k => kotatsuref01_Join.f k L) L.flatten := by
  have := join_l0 L hl hsum L.length 0 (by omega)
  simpa [kotatsuref01_Join.f] using this
/-! ### kotatsuref01_Same -/
theorem same_l0 (a b : List Int) (hl : a.length = b.length) (hm : a.length ≤ 140737488355328) (d : Nat) : ∀ i : Nat, i + d = a.length →
    Ev (fun k => kotatsuref01_Same.l0 k a b (a.length : Int) (i : Int)) (decide (a.drop i = b.drop i)) := by
  induction d with
  | zero =>
    intro i hi
    rw [List.drop_eq_nil_of_le (by omega), List.drop_eq_nil_of_le (by omega)]
    refine Ev.step (f := fun _ => some true) (fun k => ?_) (Ev.now _)
    simp only [kotatsuref01_Same.l0]
    rw [if_neg (by omega)]
  | succ d ih =>
    intro i hi
    have ha : a.drop i = rd a (i : Int) :: a.drop (i + 1) := by
      unfold rd
      rw [List.drop_eq_getElem_cons (by omega), List.getD_eq_getElem?_getD, Int.toNat_natCast, List.getElem?_eq_getElem (by omega)]; rfl
    have hb : b.drop i = rd b (i : Int) :: b.drop (i + 1) := by
      unfold rd
      rw [List.drop_eq_getElem_cons (by omega), List.getD_eq_getElem?_getD, Int.toNat_natCast, List.getElem?_eq_getElem (by omega)]; rfl
    by_cases c : rd a (i : Int) = rd b (i : Int)
    · have h1 := ih (i + 1) (by omega)
      have e : decide (a.drop i = b.drop i) = decide (a.drop (i + 1) = b.drop (i + 1)) := by
        rw [ha, hb, c]; simp
      rw [e]
      refine Ev.step (f := fun k => kotatsuref01_Same.l0 k a b (a.length : Int) ((i + 1 : Nat) : Int)) (fun k => ?_) h1
      simp only [kotatsuref01_Same.l0]
      rw [if_pos (by omega), if_pos (by omega), if_pos (by omega), if_pos (by omega), if_pos c, w64 (by omega) (by omega)]
      rfl
    · have e : decide (a.drop i = b.drop i) = false := by
        rw [ha, hb]; simp [c]
      rw [e]
      refine Ev.step (f := fun _ => some false) (fun k => ?_) (Ev.now _)
      simp only [kotatsuref01_Same.l0]
      rw [if_pos (by omega), if_pos (by omega), if_pos (by omega), if_pos (by omega), if_neg c]
theorem same_ev (a b : List Int) (hm : a.length ≤ 140737488355328) : Ev (fun k => kotatsuref01_Same.f k a b) (decide (a = b)) := by
  unfold kotatsuref01_Same.f
  by_cases c : a.length = b.length
  · have := same_l0 a b c hm a.length 0 (by omega)
    refine Ev.congr (fun k => ?_) this
    rw [if_pos (by omega)]
    rfl
  · have e : decide (a = b) = false := decide_eq_false (fun h => c (by rw [h]))
    rw [e]
    refine Ev.congr (fun k => ?_) (Ev.now _)
    rw [if_neg (by omega)]

end Go.Proofs.Ytmfdmfflbdghfaa.Pure
namespace Go.Proofs.Ytmfdmfflbdghfaa.Drive
open Go.RowKit Go.Proofs.Ytmfdmfflbdghfaa.PDriveLays Go.Proofs.Ytmfdmfflbdghfaa.U Go.Proofs.YtmfdmfflbdghfaaW.PrintWords Go.Proofs.YtmfdmfflbdghfaaW.PrintLast Go.Proofs.YtmfdmfflbdghfaaW.PrintMore
theorem cut_calls (A : Option Addr) (c : Nat) (l : List Int) (m : Nat) (W : World) (hm : m < 100000) (hC : (Kd.int .u8).C W A l.length l) (hc : l.length ≤ c) (hy : l.length * 1 ≤ 140737488351232) :
    Calls Try.prog 9 #[.slice A l.length c, .int .i64 (m : Int)] W fun e W' => ∃ v : Value, e = .returned v ∧ Kd.R (Kd.int .u8) 5 W' W.heap.size (fun _ => True) v (l.take m) ∧ Below W.heap.size W W' := by
  obtain ⟨k, hk⟩ := Pure.cut_ev l m hm (by omega)
  exact kotatsuref01_Cut.calls k A c l (m : Int) _ W hC hc (hk k (Nat.le_refl _))
end Go.Proofs.Ytmfdmfflbdghfaa.Drive
