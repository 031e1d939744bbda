/-
  A ROW OF ACTS THAT COMES IN, OPENED. By the prover of this repo.
-/
import Derived.Test.YtkmdhpmgbcdlmaaDoorO
import Derived.Test.YtkmdhpmgbcdlmaaDoorWavC
namespace Go.Proofs.YtkmdhpmgbcdlmaaDoor.Wave
open Go.ChangeShapes Go.WideShapes Go.Deep Go.RowKit Go.Proofs.YtkmdhpmgbcdlmaaDoorW.PrintWords Go.Proofs.YtkmdhpmgbcdlmaaDoorW.PrintLast Go.Proofs.YtkmdhpmgbcdlmaaDoorW.PrintMore
set_option linter.unusedVariables false
set_option linter.unusedSimpArgs false
structure Act where
  d : Int
  a : Int
  b : Int
  n : Int
def ga (l : List Act) (i : Int) : Act := l.getD i.toNat ⟨0, 0, 0, 0⟩
def Act.ok (x : Act) : Prop := U8 x.d ∧ (0 ≤ x.a ∧ x.a < 65536) ∧ U8 x.b ∧ (0 ≤ x.n ∧ x.n < 65536)
def Act.at_ (W : World) (ae : Addr) (x : Act) : Prop :=
  W.cell? ae = some (.int .u8 x.d) ∧ W.cell? ⟨ae.block, ae.off + 1, none⟩ = some (.int .u16 x.a) ∧ W.cell? ⟨ae.block, ae.off + 2, none⟩ = some (.int .u8 x.b) ∧ W.cell? ⟨ae.block, ae.off + 3, none⟩ = some (.int .u16 x.n)
def Acts (W : World) (A : Option Addr) (l : List Act) : Prop := ∀ i : Int, 0 ≤ i → i < l.length → ∃ ad, A = some ad ∧ Act.at_ W (ad.add (i.toNat * 4)) (ga l i)
theorem Act.at_.below {W W1 : World} {ae : Addr} {x : Act} (h : Act.at_ W ae x) (hb : Below W.heap.size W W1) : Act.at_ W1 ae x := by
  have hl := World.block_lt_of_cell? W _ h.1
  exact ⟨(hb.cell hl).trans h.1, (hb.cell (p := ⟨ae.block, ae.off + 1, none⟩) hl).trans h.2.1, (hb.cell (p := ⟨ae.block, ae.off + 2, none⟩) hl).trans h.2.2.1, (hb.cell (p := ⟨ae.block, ae.off + 3, none⟩) hl).trans h.2.2.2⟩
theorem add_pos (a : Addr) (j : Nat) (h : 0 < j) : a.add j = ⟨a.block, a.off + j, none⟩ := by
  unfold Addr.add
  rw [if_neg (by omega)]
theorem wf8 {n : Int} (h : (Lit.int .u8 n).wf = true) : U8 n := by
  simp [Lit.wf, IntKind.min, IntKind.max, IntKind.signed, IntKind.bits] at h
  exact ⟨h.1, by omega⟩
theorem wf16 {n : Int} (h : (Lit.int .u16 n).wf = true) : 0 ≤ n ∧ n < 65536 := by
  simp [Lit.wf, IntKind.min, IntKind.max, IntKind.signed, IntKind.bits] at h
  omega
theorem act_open {H : Type} {enc : TypeId × Value → H} {W : World} {fuel : Nat} {cs : List Value} {x : DataW H × List MemPlace} (h : DataW.trod enc Tryd.prog W 0 (fun _ => true) true fuel 40 cs = some x) :
    ∃ y : Act, y.ok ∧ cs = [.int .u8 y.d, .int .u16 y.a, .int .u8 y.b, .int .u16 y.n] := by
  obtain ⟨n, hl, hf⟩ := O.struct_cells Tryd.underlying40 (by kernel_rfl) (by kernel_rfl) h
  obtain ⟨v0, y0, c0, t0⟩ := hf 0 _ rfl
  obtain ⟨n0, e0, w0⟩ := O.opens_int (k := .u8) Tryd.underlying5 H enc n [v0] y0 t0
  obtain rfl : v0 = .int .u8 n0 := (List.cons.inj e0).1
  obtain ⟨v1, y1, c1, t1⟩ := hf 1 _ rfl
  obtain ⟨n1, e1, w1⟩ := O.opens_int (k := .u16) Tryd.underlying27 H enc n [v1] y1 t1
  obtain rfl : v1 = .int .u16 n1 := (List.cons.inj e1).1
  obtain ⟨v2, y2, c2, t2⟩ := hf 2 _ rfl
  obtain ⟨n2, e2, w2⟩ := O.opens_int (k := .u8) Tryd.underlying5 H enc n [v2] y2 t2
  obtain rfl : v2 = .int .u8 n2 := (List.cons.inj e2).1
  obtain ⟨v3, y3, c3, t3⟩ := hf 3 _ rfl
  obtain ⟨n3, e3, w3⟩ := O.opens_int (k := .u16) Tryd.underlying27 H enc n [v3] y3 t3
  obtain rfl : v3 = .int .u16 n3 := (List.cons.inj e3).1
  refine ⟨⟨n0, n1, n2, n3⟩, ⟨wf8 w0, wf16 w1, wf8 w2, wf16 w3⟩, ?_⟩
  clear hf
  apply List.ext_getElem?
  intro j
  match j with
  | 0 => exact c0
  | 1 => exact c1
  | 2 => exact c2
  | 3 => exact c3
  | j + 4 => rw [List.getElem?_eq_none (by rw [hl]; show 4 ≤ j + 4; omega)]; rfl
theorem acts_open {H : Type} {enc : TypeId × Value → H} {W : World} {fuel : Nat} {cs : List Value} {x : DataW H × List MemPlace} (h : DataW.trod enc Tryd.prog W 0 (fun _ => true) true fuel 38 cs = some x) :
    ∃ (A : Option Addr) (cap : Nat) (l : List Act), cs = [.slice A l.length cap] ∧ l.length ≤ cap ∧ l.length ≤ 9223372036854775807 ∧ Acts W A l ∧ ∀ i, (ga l i).ok := by
  have hok0 : ∀ i, (ga [] i).ok := fun i => by
    show Act.ok ⟨0, 0, 0, 0⟩
    exact ⟨⟨by decide, by decide⟩, ⟨by decide, by decide⟩, ⟨by decide, by decide⟩, ⟨by decide, by decide⟩⟩
  rcases open_slice Tryd.underlying38 h with ⟨rfl, rfl⟩ | ⟨a, len, cap, m, n, D, Pl, rfl, hb, hl, hm, hmm, hx, hi⟩
  · exact ⟨none, 0, [], rfl, Nat.le_refl _, by decide, fun i h0 h1 => absurd h1 (by simp; omega), hok0⟩
  · have hml : len ≤ m := by rw [hmm]; split <;> omega
    have c4 : Tryd.prog.cellsOf 40 = 4 := by kernel_rfl
    have hi' : ∀ i : Fin len, ∃ y : Act, y.ok ∧ Act.at_ W (a.add (i.val * 4)) y := by
      intro i
      obtain ⟨cs', hc, htr⟩ := hi i.val (Nat.lt_of_lt_of_le i.isLt hml)
      obtain ⟨y, hy, rfl⟩ := act_open htr
      rw [c4] at hc
      obtain ⟨_, hcl, hat⟩ := World.cells?_some hc
      have h0 := hat 0 (by decide)
      have h1 := hat 1 (by decide)
      have h2 := hat 2 (by decide)
      have h3 := hat 3 (by decide)
      rw [add_pos _ 1 (by decide)] at h1
      rw [add_pos _ 2 (by decide)] at h2
      rw [add_pos _ 3 (by decide)] at h3
      exact ⟨y, hy, h0, h1, h2, h3⟩
    have hll : (List.ofFn fun i => (hi' i).choose).length = len := List.length_ofFn
    have hga : ∀ (j : Nat) (hj : j < len), ga (List.ofFn fun i => (hi' i).choose) (j : Int) = (hi' ⟨j, hj⟩).choose := by
      intro j hj
      unfold ga
      rw [Int.toNat_natCast, List.getD_eq_getElem?_getD, List.getElem?_eq_getElem (by rw [hll]; exact hj), List.getElem_ofFn]; rfl
    refine ⟨some a, cap, List.ofFn fun i => (hi' i).choose, by rw [hll], by rw [hll]; exact hl, by rw [hll]; unfold maxLen at hm; omega, ?_, ?_⟩
    · intro i h0 h1
      rw [hll] at h1
      obtain ⟨j, rfl⟩ := Int.eq_ofNat_of_zero_le h0
      have hj : j < len := by omega
      refine ⟨a, rfl, ?_⟩
      rw [hga j hj, Int.toNat_natCast]
      exact (hi' ⟨j, hj⟩).choose_spec.2
    · intro i
      by_cases hj : i.toNat < len
      · have e : ga (List.ofFn fun i => (hi' i).choose) i = ga (List.ofFn fun i => (hi' i).choose) ((i.toNat : Nat) : Int) := by unfold ga; rw [Int.toNat_natCast]
        rw [e, hga _ hj]
        exact (hi' ⟨_, hj⟩).choose_spec.1
      · unfold ga
        rw [List.getD_eq_getElem?_getD, List.getElem?_eq_none (by rw [hll]; omega)]
        exact hok0 0
end Go.Proofs.YtkmdhpmgbcdlmaaDoor.Wave
