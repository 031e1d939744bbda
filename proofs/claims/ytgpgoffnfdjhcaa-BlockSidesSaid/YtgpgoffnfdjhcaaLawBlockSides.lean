/- THE ROW of BlockSides over its walk, in the print's form. By the prover of this repo (wip/walk/mkrow2.py). -/
import Derived.Test.YtgpgoffnfdjhcaaRows
import Derived.Test.YtgpgoffnfdjhcaaPBlockSidesx6
import Derived.Test.YtgpgoffnfdjhcaaPureBlockSides
import Derived.Test.YtgpgoffnfdjhcaaWSized
import Derived.Test.YtgpgoffnfdjhcaaO
import Derived.WalkKit
import Derived.ProofKit
import Derived.OpenShut
import Derived.ShutString
import Derived.ChangeOld
import Derived.Below
import Derived.SizedLaws
namespace Go.Proofs.Ytgpgoffnfdjhcaa.blockSides
open Go.ChangeShapes Go.WideShapes Go.ChangeAt Go.RowKit
open Go.Proofs.YtgpgoffnfdjhcaaW.PrintWords Go.Proofs.YtgpgoffnfdjhcaaW.PrintLast Go.Proofs.YtgpgoffnfdjhcaaW.PrintMore
open Go.ChangeMaps (open_string shut_string)
set_option linter.unusedVariables false
theorem own : ownKnob Try.prog.godebug = none := by kernel_rfl
theorem laidOut : laidOutB Try.prog = true := by kernel_rfl
theorem opens_S48 (W : World) : O.Opens Try.prog W PBlockSides.k48 48 Pure.okS48 := by
  intro H enc fuel cs x h
  obtain ⟨n, hl, hf⟩ := O.struct_cells Try.underlying48 (by kernel_rfl) (by kernel_rfl) h
  obtain ⟨v0, y0, c0, t0⟩ := hf 0 _ rfl
  obtain ⟨n0, e0, w0⟩ := O.opens_int (k := .u8) Try.underlying5 H enc n [v0] y0 t0
  obtain rfl : v0 = .int .u8 n0 := (List.cons.inj e0).1
  obtain ⟨v1, y1, c1, t1⟩ := hf 1 _ rfl
  obtain ⟨n1, e1, w1⟩ := O.opens_int (k := .u8) Try.underlying5 H enc n [v1] y1 t1
  obtain rfl : v1 = .int .u8 n1 := (List.cons.inj e1).1
  obtain ⟨v2, y2, c2, t2⟩ := hf 2 _ rfl
  obtain ⟨n2, e2, w2⟩ := O.opens_int (k := .u8) Try.underlying5 H enc n [v2] y2 t2
  obtain rfl : v2 = .int .u8 n2 := (List.cons.inj e2).1
  obtain ⟨v3, y3, c3, t3⟩ := hf 3 _ rfl
  obtain ⟨n3, e3, w3⟩ := O.opens_string Try.underlying9 H enc n [v3] y3 t3
  obtain rfl : v3 = .string n3 := (List.cons.inj e3).1
  obtain ⟨v4, y4, c4, t4⟩ := hf 4 _ rfl
  obtain ⟨n4, e4, w4⟩ := O.opens_int (k := .u16) Try.underlying46 H enc n [v4] y4 t4
  obtain rfl : v4 = .int .u16 n4 := (List.cons.inj e4).1
  obtain ⟨v5, y5, c5, t5⟩ := hf 5 _ rfl
  obtain ⟨n5, ⟨A5, k5, e5, l5, g5⟩, w5⟩ := O.opens_slice (d := Kd.int .u8) Try.underlying22 rfl (O.opens_int (k := .u8) Try.underlying5) H enc n [v5] y5 t5
  obtain rfl : v5 = .slice A5 n5.length k5 := (List.cons.inj e5).1
  have hcs : cs = [.int .u8 n0, .int .u8 n1, .int .u8 n2, .string n3, .int .u16 n4, .slice A5 n5.length k5] := by
    clear hf
    apply List.ext_getElem?
    intro j
    match j with
    | 0 => exact c0
    | 1 => exact c1
    | 2 => exact c2
    | 3 => exact c3
    | 4 => exact c4
    | 5 => exact c5
    | j + 6 => rw [List.getElem?_eq_none (by rw [hl]; show 6 ≤ j + 6; omega)]; rfl
  subst hcs
  exact ⟨⟨n0, n1, n2, n3, n4, n5⟩, PBlockSides.k48_mk W _ l5 g5, w0, w1, w2, w3, w4, w5⟩
set_option maxRecDepth 100000 in
theorem lifted (os : Os) (started : os.Started) (H : Type) (enc : TypeId × Value → H) :
    ReturnsInHanded {} Try.checked os 7 .any (Rows.blockSidesSpec.pre6 enc Try.prog Try.f7 Rows.blockSidesRow.domain false) (Rows.blockSidesSpec.post enc Try.prog Try.f7 false true false false) := by
  refine returnsInHanded_of_change_sized (C := Try.checked) own started (by kernel_rfl) Try.func7
    (ChangeSpec.witness6 (enc := enc) (C := Try.checked) false ⟨#[], #[.string ⟨#[]⟩, .int .u8 0, .slice none 0 0, .int .u8 0, .int .i16 0, .slice none 0 0], []⟩ 8 (by kernel_rfl) (by kernel_rfl) (by kernel_rfl) (by kernel_rfl)) ?_
  intro W base args ds gs before hval0 hW hcnd hsz0 _
  have hsz : (DataW.weightsEach Try.prog (Try.f7.params.toList ++ Rows.blockSidesSpec.plain.varTypes Try.prog) (ds ++ gs)).all (· ≤ reachBytes) = true := hsz0
  have hval : ∀ (j : Nat) t v, Try.f7.params[j]? = some t → args[j]? = some v → Value.okWide Try.prog W .any base t v := hval0
  have hW' := hW
  obtain ⟨p, q, hA0, hV, rfl, hfz, hnd⟩ := hW
  have hA : DataW.TrodAll enc Try.prog W 0 (fun _ => true) true Try.f7.params.toList args.toList ds p := hA0
  rw [Try.params7] at hA hval hsz
  obtain ⟨v0, vs0, d0, ds0, p0, q0, hargs, rfl, rfl, h0, r0⟩ := trodAll_cons hA
  obtain ⟨v1, vs1, d1, ds1, p1, q1, rfl, rfl, rfl, h1, r1⟩ := trodAll_cons r0
  obtain ⟨v2, vs2, d2, ds2, p2, q2, rfl, rfl, rfl, h2, r2⟩ := trodAll_cons r1
  obtain ⟨v3, vs3, d3, ds3, p3, q3, rfl, rfl, rfl, h3, r3⟩ := trodAll_cons r2
  obtain ⟨v4, vs4, d4, ds4, p4, q4, rfl, rfl, rfl, h4, r4⟩ := trodAll_cons r3
  obtain ⟨v5, vs5, d5, ds5, p5, q5, rfl, rfl, rfl, h5, r5⟩ := trodAll_cons r4
  obtain ⟨rfl, rfl, rfl⟩ := trodAll_nil r5
  obtain rfl : args = #[v0, v1, v2, v3, v4, v5] := by cases args; simp_all
  obtain ⟨rfl, rfl⟩ := trodVars_none hV
  obtain ⟨a0, rfl, rfl, rfl, w0⟩ := open_string Try.underlying9 (hval 0 9 v0 rfl rfl) h0
  obtain ⟨a1, rfl, rfl, rfl, w1⟩ := open_int Try.underlying5 (hval 1 5 v1 rfl rfl) h1
  obtain ⟨a2, len2, cap2, rfl⟩ := okWide_slice Try.underlying38 (hval 2 38 v2 rfl rfl)
  have k2 := h2
  have lt2 : ∀ x ∈ p2, x.block < W.heap.size := by obtain ⟨m, hm⟩ := k2; exact DataW.trod_lt m _ _ _ hm
  obtain ⟨l2, rfl, hr2, hc2, hm2, hw2⟩ := O.came (O.opens_slice (d := PBlockSides.k48) Try.underlying38 rfl (opens_S48 _)) h2
  obtain ⟨a3, rfl, rfl, rfl, w3⟩ := open_int Try.underlying5 (hval 3 5 v3 rfl rfl) h3
  obtain ⟨a4, rfl, rfl, rfl, w4⟩ := open_int Try.underlying56 (hval 4 56 v4 rfl rfl) h4
  obtain ⟨a5, len5, cap5, rfl⟩ := okWide_slice Try.underlying22 (hval 5 22 v5 rfl rfl)
  have k5 := h5
  have lt5 : ∀ x ∈ p5, x.block < W.heap.size := by obtain ⟨m, hm⟩ := k5; exact DataW.trod_lt m _ _ _ hm
  have y5 : len5 * 1 ≤ 140737488351232 := Go.Proofs.YtgpgoffnfdjhcaaW.PrintWords.sized_ints hsz (j := 5) (t := 22) rfl rfl Try.underlying22 Try.underlying5 (by kernel_rfl) (by kernel_rfl) h5
  obtain ⟨l5, rfl, hr5, hc5, hm5, hw5⟩ := O.came (O.opens_slice (d := (Kd.int .u8)) Try.underlying22 rfl (O.opens_int (k := .u8) Try.underlying5)) h5
  clear hA0 hval0 hsz0 hsz
  obtain ⟨k, hk⟩ := Pure.BlockSides a0 a1 l2 a3 a4 l5 (by simpa [maxLen] using w0) w1 ⟨hm2, hw2⟩ w3 w4 ⟨hm5, hw5⟩ y5
  refine (PBlockSides.kotatsulaw05_BlockSides.calls k a0 a1 a2 cap2 l2 a3 a4 a5 cap5 l5 true W hr2 hc2 hr5 hc5 hk).mono fun e W' ⟨he, bel⟩ => ?_
  subst he
  exact ⟨_, rfl, _, _, _, [], _, [], hW', trodAll_mk1 (shut_bool Try.underlying4 _), (trodAll_cons_mk (shut_string Try.underlying9 w0) (trodAll_cons_mk (shut_int Try.underlying5 w1) (trodAll_cons_mk (Below.trod laidOut (by kernel_rfl) (of_decide_eq_true (by kernel_rfl)) k2 bel lt2) (trodAll_cons_mk (shut_int Try.underlying5 w3) (trodAll_cons_mk (shut_int Try.underlying56 w4) (trodAll_cons_mk (Below.trod laidOut (by kernel_rfl) (of_decide_eq_true (by kernel_rfl)) k5 bel lt5) trodAll_mk0)))))), rfl, bel.frame _, fun h => by cases h⟩
theorem over : Rows.blockSidesRow.holds Try.pinned (OpenSpec.ofChange Rows.blockSidesSpec) :=
  OpenClaim.holds_of_wide 7 Try.f7 rfl rfl rfl rfl rfl rfl rfl ⟨rfl, rfl, rfl, rfl, rfl⟩ rfl rfl rfl rfl rfl (by kernel_rfl) Try.func7 (by kernel_rfl)
    (of_decide_eq_true (by kernel_rfl)) (by unfold Func.isWrapper; first | (rw [if_pos (by decide +kernel)]; kernel_rfl) | (rw [if_neg (by decide +kernel)]; exact ⟨rfl, rfl⟩))
    (fun os started H enc _ => lifted os started H enc)
theorem proved : Rows.BlockSidesSaid := over
#print axioms proved
end Go.Proofs.Ytgpgoffnfdjhcaa.blockSides
namespace Go.Proofs.Ytgpgoffnfdjhcaa
/-- The row, under a short name, for the claim. -/
theorem blockSides_holds : Rows.BlockSidesSaid := blockSides.proved
end Go.Proofs.Ytgpgoffnfdjhcaa
