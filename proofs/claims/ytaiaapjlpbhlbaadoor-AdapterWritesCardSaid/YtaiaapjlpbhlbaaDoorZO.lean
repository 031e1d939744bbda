/-
 WHAT COMES IN, OPENED, whatever its kind: slices of structs, slices of slices. No program in sight. By the prover of this repo.
-/
import Derived.Test.YtaiaapjlpbhlbaaDoorZWMore
import Derived.Test.YtaiaapjlpbhlbaaDoorZWNEv
import Derived.Deep.Slices
import Derived.Deep.Fields
import Derived.ChangeSame
import Derived.OpenShut
import Derived.Carry
namespace Go.Proofs.YtaiaapjlpbhlbaaDoor.O
open Go.ChangeShapes Go.WideShapes Go.Deep Go.RowKit Go.Proofs.YtaiaapjlpbhlbaaDoorW.PrintWords Go.Proofs.YtaiaapjlpbhlbaaDoorW.PrintLast Go.Proofs.YtaiaapjlpbhlbaaDoorW.PrintMore
set_option linter.unusedVariables false
set_option linter.unusedSimpArgs false
section
variable {α : Type} {P : Program} {W : World} {t e : TypeId}
def Opens (P : Program) (W : World) (d : Kd α) (t : TypeId) (ok : α → Prop) : Prop :=
 ∀ (H : Type) (enc : TypeId × Value → H) (fuel : Nat) (cs : List Value) (x : DataW H × List MemPlace), DataW.trod enc P W 0 (fun _ => true) true fuel t cs = some x → ∃ v : α, d.K W v cs ∧ ok v
theorem opens_int {k : IntKind} (ht : P.underlying t = some (.int k)) : Opens P W (Kd.int k) t (fun n => (Lit.int k n).wf = true) := by
 intro H enc fuel cs x h
 obtain ⟨n, rfl, _, hw⟩ := DataW.trod_int ht h
 exact ⟨n, rfl, hw⟩
theorem opens_bool (ht : P.underlying t = some .bool) : Opens P W Kd.bool t (fun _ => True) := by
 intro H enc fuel cs x h
 obtain ⟨n, rfl, _⟩ := DataW.trod_bool ht h
 exact ⟨n, rfl, trivial⟩
theorem opens_string (ht : P.underlying t = some .string) : Opens P W Kd.string t (fun s => s.size ≤ 9223372036854775807) := by
 intro H enc fuel cs x h
 obtain ⟨n, rfl, _, hs⟩ := DataW.trod_string ht h
 exact ⟨n, rfl, by simpa [maxLen] using hs⟩
theorem opens_slice {d : Kd α} {ok : α → Prop} (ht : P.underlying t = some (.slice e)) (hC : P.cellsOf e = d.sz) (he : Opens P W d e ok) : Opens P W (Kd.slice e d) t (fun l => l.length ≤ 9223372036854775807 ∧ ∀ x ∈ l, ok x) := by
 intro H enc fuel cs x h
 rcases open_slice ht h with ⟨rfl, rfl⟩ | ⟨a, len, cap, m, n, D, Pl, rfl, hb, hl, hm, hmm, hx, hi⟩
 ·exact ⟨[], ⟨none, 0, rfl, Nat.le_refl _, Kd.C_nil d W⟩, by simp, fun x hx => by cases hx⟩
 ·have hml : len ≤ m := by rw [hmm]; split <;> omega
  have hi' : ∀ i : Fin len, ∃ v : α, ∃ cs', W.cells? 0 (a.add (i.val * P.cellsOf e)) (P.cellsOf e) = some cs' ∧ d.K W v cs' ∧ ok v := by
   intro i
   obtain ⟨cs', hc, htr⟩ := hi i.val (Nat.lt_of_lt_of_le i.isLt hml)
   obtain ⟨v, hk, ho⟩ := he H enc n cs' _ htr
   exact ⟨v, cs', hc, hk, ho⟩
  have hll : (List.ofFn fun i => (hi' i).choose).length = len := List.length_ofFn
  refine ⟨List.ofFn fun i => (hi' i).choose, ⟨some a, cap, by rw [hll], by rw [hll]; exact hl, ?_⟩, ?_⟩
  ·refine ⟨rfl, by rw [hll]; unfold maxLen at hm; omega, fun _ => ⟨a, rfl, fun j p hj => ?_⟩⟩
   obtain ⟨hjl, hjv⟩ := List.getElem?_eq_some_iff.1 hj
   rw [hll] at hjl
   rw [List.getElem_ofFn] at hjv
   obtain ⟨cs', hc, hk, _⟩ := (hi' ⟨j, hjl⟩).choose_spec
   obtain ⟨_, hcl, hat⟩ := World.cells?_some hc
   rw [hjv] at hk
   refine ⟨cs', by rw [d.K_len hk], hk, fun i u hu => ?_⟩
   have hil : i < P.cellsOf e := by have := (List.getElem?_eq_some_iff.1 hu).1; omega
   have := hat i hil
   rw [hu] at this
   rw [← hC, ← Go.Deep.add_add]
   exact this
  ·refine ⟨by rw [hll]; unfold maxLen at hm; omega, fun x hx => ?_⟩
   obtain ⟨j, hj⟩ := List.mem_iff_getElem?.1 hx
   obtain ⟨hjl, hjv⟩ := List.getElem?_eq_some_iff.1 hj
   rw [hll] at hjl
   rw [List.getElem_ofFn] at hjv
   obtain ⟨cs', _, _, ho⟩ := (hi' ⟨j, hjl⟩).choose_spec
   rw [← hjv]; exact ho
/-- a struct of one-cell fields: its cells, one by one -/
theorem struct_cells {H : Type} {enc : TypeId × Value → H} {fs : Array Field} {fuel : Nat} {cs : List Value} {x : DataW H × List MemPlace} (he : P.underlying t = some (.struct fs)) (hone : oneCellFields P fs = true) (hC : P.cellsOf t = fs.size)
  (h : DataW.trod enc P W 0 (fun _ => true) true fuel t cs = some x) : ∃ n, cs.length = fs.size ∧ ∀ (j : Nat) (f : Field), fs[j]? = some f → ∃ (v : Value) (y : DataW H × List MemPlace), cs[j]? = some v ∧ DataW.trod enc P W 0 (fun _ => true) true n f.type [v] = some y := by
 obtain ⟨ys, n, _, _, hlen, hyl, hf⟩ := DataW.trod_struct he h
 rw [hC] at hlen
 refine ⟨n, hlen, fun j f hj => ?_⟩
 obtain ⟨ho, hk⟩ := hone_of hone j f hj
 have hjl : j < fs.size := (Array.getElem?_eq_some_iff.1 hj).1
 have h1 := hf j f hj
 rw [ho, hk] at h1
 have hone' : (cs.drop j).take 1 = [cs[j]'(by omega)] := by
  rw [List.drop_eq_getElem_cons (by omega)]
  rfl
 rw [hone'] at h1
 have hys : ys[j]? = some (ys[j]'(by omega)) := List.getElem?_eq_getElem (by omega)
 exact ⟨_, _, List.getElem?_eq_getElem (by omega), h1.trans hys⟩
/-- a slice that came in -/
theorem came {d : Kd α} {ok : α → Prop} (h : Opens P W (Kd.slice e d) t (fun l => l.length ≤ 9223372036854775807 ∧ ∀ x ∈ l, ok x)) {H : Type} {enc : TypeId × Value → H} {a : Option Addr} {len cap : Nat} {dd : DataW H} {ps : List MemPlace} (ht : DataW.Trod enc P W 0 (fun _ => true) true t (.slice a len cap) dd ps) :
  ∃ l : List α, len = l.length ∧ d.C W a l.length l ∧ l.length ≤ cap ∧ l.length ≤ 9223372036854775807 ∧ ∀ x ∈ l, ok x := by
 obtain ⟨fuel, hf⟩ := ht
 obtain ⟨l, ⟨A, c, hcs, hl, hc⟩, ho⟩ := h H enc fuel _ _ hf
 simp [Value.cells] at hcs
 obtain ⟨rfl, rfl, rfl⟩ := hcs
 exact ⟨l, rfl, hc, hl, ho⟩
end
end Go.Proofs.YtaiaapjlpbhlbaaDoor.O
