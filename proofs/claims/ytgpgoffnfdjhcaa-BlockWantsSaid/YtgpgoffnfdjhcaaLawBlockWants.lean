/- THE ROW of BlockWants over its walk, in the print's form. By the prover of this repo (wip/walk/mkrow2.py). -/
import Derived.Test.YtgpgoffnfdjhcaaRows
import Derived.Test.YtgpgoffnfdjhcaaPBlockWantsx4
import Derived.Test.YtgpgoffnfdjhcaaPureBlockWants
import Derived.Test.YtgpgoffnfdjhcaaWSized
import Derived.Test.YtgpgoffnfdjhcaaO
import Derived.WalkKit
import Derived.ProofKit
import Derived.OpenShut
import Derived.ShutString
import Derived.ChangeOld
import Derived.Below
import Derived.SizedLaws
namespace Go.Proofs.Ytgpgoffnfdjhcaa.blockWants
open Go.ChangeShapes Go.WideShapes Go.ChangeAt Go.RowKit
open Go.Proofs.YtgpgoffnfdjhcaaW.PrintWords Go.Proofs.YtgpgoffnfdjhcaaW.PrintLast Go.Proofs.YtgpgoffnfdjhcaaW.PrintMore
open Go.ChangeMaps (open_string shut_string)
set_option linter.unusedVariables false
theorem own : ownKnob Try.prog.godebug = none := by kernel_rfl
theorem laidOut : laidOutB Try.prog = true := by kernel_rfl
theorem opens_S48 (W : World) : O.Opens Try.prog W PBlockWants.k48 48 Pure.okS48 := by
  intro H enc fuel cs x h
  obtain ⟨n, hl, hf⟩ := O.struct_cells Try.underlying48 (by kernel_rfl) (by kernel_rfl) h
  obtain ⟨v0, y0, c0, t0⟩ := hf 0 _ rfl
  obtain ⟨n0, e0, w0⟩ := O.opens_int (k := .u8) Try.underlying5 H enc n [v0] y0 t0
  obtain rfl : v0 = .int .u8 n0 := (List.cons.inj e0).1
  obtain ⟨v1, y1, c1, t1⟩ := hf 1 _ rfl
  obtain ⟨n1, e1, w1⟩ := O.opens_int (k := .u8) Try.underlying5 H enc n [v1] y1 t1
  obtain rfl : v1 = .int .u8 n1 := (List.cons.inj e1).1
  obtain ⟨v2, y2, c2, t2⟩ := hf 2 _ rfl
  obtain ⟨n2, e2, w2⟩ := O.opens_int (k := .u8) Try.underlying5 H enc n [v2] y2 t2
  obtain rfl : v2 = .int .u8 n2 := (List.cons.inj e2).1
  obtain ⟨v3, y3, c3, t3⟩ := hf 3 _ rfl
  obtain ⟨n3, e3, w3⟩ := O.opens_string Try.underlying9 H enc n [v3] y3 t3
  obtain rfl : v3 = .string n3 := (List.cons.inj e3).1
  obtain ⟨v4, y4, c4, t4⟩ := hf 4 _ rfl
  obtain ⟨n4, e4, w4⟩ := O.opens_int (k := .u16) Try.underlying46 H enc n [v4] y4 t4
  obtain rfl : v4 = .int .u16 n4 := (List.cons.inj e4).1
  obtain ⟨v5, y5, c5, t5⟩ := hf 5 _ rfl
  obtain ⟨n5, ⟨A5, k5, e5, l5, g5⟩, w5⟩ := O.opens_slice (d := Kd.int .u8) Try.underlying22 rfl (O.opens_int (k := .u8) Try.underlying5) H enc n [v5] y5 t5
  obtain rfl : v5 = .slice A5 n5.length k5 := (List.cons.inj e5).1
  have hcs : cs = [.int .u8 n0, .int .u8 n1, .int .u8 n2, .string n3, .int .u16 n4, .slice A5 n5.length k5] := by
    clear hf
    apply List.ext_getElem?
    intro j
    match j with
    | 0 => exact c0
    | 1 => exact c1
    | 2 => exact c2
    | 3 => exact c3
    | 4 => exact c4
    | 5 => exact c5
    | j + 6 => rw [List.getElem?_eq_none (by rw [hl]; show 6 ≤ j + 6; omega)]; rfl
  subst hcs
  exact ⟨⟨n0, n1, n2, n3, n4, n5⟩, PBlockWants.k48_mk W _ l5 g5, w0, w1, w2, w3, w4, w5⟩
set_option maxRecDepth 100000 in
theorem lifted (os : Os) (started : os.Started) (H : Type) (enc : TypeId × Value → H) :
    ReturnsInHanded {} Try.checked os 4 .any (Rows.blockWantsSpec.pre6 enc Try.prog Try.f4 Rows.blockWantsRow.domain false) (Rows.blockWantsSpec.post enc Try.prog Try.f4 false true false false) := by
  refine returnsInHanded_of_change_sized (C := Try.checked) own started (by kernel_rfl) Try.func4
    (ChangeSpec.witness6 (enc := enc) (C := Try.checked) false ⟨#[], #[.slice none 0 0, .int .u8 0, .int .u8 0, .int .u8 0], []⟩ 8 (by kernel_rfl) (by kernel_rfl) (by kernel_rfl) (by kernel_rfl)) ?_
  intro W base args ds gs before hval0 hW hcnd hsz0 _
  have hsz : (DataW.weightsEach Try.prog (Try.f4.params.toList ++ Rows.blockWantsSpec.plain.varTypes Try.prog) (ds ++ gs)).all (· ≤ reachBytes) = true := hsz0
  have hval : ∀ (j : Nat) t v, Try.f4.params[j]? = some t → args[j]? = some v → Value.okWide Try.prog W .any base t v := hval0
  have hW' := hW
  obtain ⟨p, q, hA0, hV, rfl, hfz, hnd⟩ := hW
  have hA : DataW.TrodAll enc Try.prog W 0 (fun _ => true) true Try.f4.params.toList args.toList ds p := hA0
  rw [Try.params4] at hA hval hsz
  obtain ⟨v0, vs0, d0, ds0, p0, q0, hargs, rfl, rfl, h0, r0⟩ := trodAll_cons hA
  obtain ⟨v1, vs1, d1, ds1, p1, q1, rfl, rfl, rfl, h1, r1⟩ := trodAll_cons r0
  obtain ⟨v2, vs2, d2, ds2, p2, q2, rfl, rfl, rfl, h2, r2⟩ := trodAll_cons r1
  obtain ⟨v3, vs3, d3, ds3, p3, q3, rfl, rfl, rfl, h3, r3⟩ := trodAll_cons r2
  obtain ⟨rfl, rfl, rfl⟩ := trodAll_nil r3
  obtain rfl : args = #[v0, v1, v2, v3] := by cases args; simp_all
  obtain ⟨rfl, rfl⟩ := trodVars_none hV
  obtain ⟨a0, len0, cap0, rfl⟩ := okWide_slice Try.underlying38 (hval 0 38 v0 rfl rfl)
  have k0 := h0
  have lt0 : ∀ x ∈ p0, x.block < W.heap.size := by obtain ⟨m, hm⟩ := k0; exact DataW.trod_lt m _ _ _ hm
  obtain ⟨l0, rfl, hr0, hc0, hm0, hw0⟩ := O.came (O.opens_slice (d := PBlockWants.k48) Try.underlying38 rfl (opens_S48 _)) h0
  obtain ⟨a1, rfl, rfl, rfl, w1⟩ := open_int Try.underlying5 (hval 1 5 v1 rfl rfl) h1
  obtain ⟨a2, rfl, rfl, rfl, w2⟩ := open_int Try.underlying5 (hval 2 5 v2 rfl rfl) h2
  obtain ⟨a3, rfl, rfl, rfl, w3⟩ := open_int Try.underlying5 (hval 3 5 v3 rfl rfl) h3
  clear hA0 hval0 hsz0 hsz
  obtain ⟨k, hk⟩ := Pure.BlockWants l0 a1 a2 a3 ⟨hm0, hw0⟩ w1 w2 w3
  refine (PBlockWants.kotatsulaw05_BlockWants.calls k a0 cap0 l0 a1 a2 a3 true W hr0 hc0 hk).mono fun e W' ⟨he, bel⟩ => ?_
  subst he
  exact ⟨_, rfl, _, _, _, [], _, [], hW', trodAll_mk1 (shut_bool Try.underlying4 _), (trodAll_cons_mk (Below.trod laidOut (by kernel_rfl) (of_decide_eq_true (by kernel_rfl)) k0 bel lt0) (trodAll_cons_mk (shut_int Try.underlying5 w1) (trodAll_cons_mk (shut_int Try.underlying5 w2) (trodAll_cons_mk (shut_int Try.underlying5 w3) trodAll_mk0)))), rfl, bel.frame _, fun h => by cases h⟩
theorem over : Rows.blockWantsRow.holds Try.pinned (OpenSpec.ofChange Rows.blockWantsSpec) :=
  OpenClaim.holds_of_wide 4 Try.f4 rfl rfl rfl rfl rfl rfl rfl ⟨rfl, rfl, rfl, rfl, rfl⟩ rfl rfl rfl rfl rfl (by kernel_rfl) Try.func4 (by kernel_rfl)
    (of_decide_eq_true (by kernel_rfl)) (by unfold Func.isWrapper; first | (rw [if_pos (by decide +kernel)]; kernel_rfl) | (rw [if_neg (by decide +kernel)]; exact ⟨rfl, rfl⟩))
    (fun os started H enc _ => lifted os started H enc)
theorem proved : Rows.BlockWantsSaid := over
#print axioms proved
end Go.Proofs.Ytgpgoffnfdjhcaa.blockWants
namespace Go.Proofs.Ytgpgoffnfdjhcaa
/-- The row, under a short name, for the claim. -/
theorem blockWants_holds : Rows.BlockWantsSaid := blockWants.proved
end Go.Proofs.Ytgpgoffnfdjhcaa
