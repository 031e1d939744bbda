/- THE ROW of DiskWraps over its walk, in the print's form. By the prover of this repo (wip/walk/mkrow2.py). -/
import Derived.Test.YthnfmoaiejaheaaRows
import Derived.Test.YthnfmoaiejaheaaZPDiskWrapsx9
import Derived.Test.YthnfmoaiejaheaaZPureDiskWraps
import Derived.Test.YthnfmoaiejaheaaZWSized
import Derived.Test.YthnfmoaiejaheaaZO
import Derived.WalkKit
import Derived.ProofKit
import Derived.OpenShut
import Derived.ShutString
import Derived.ChangeOld
import Derived.Below
import Derived.SizedLaws
namespace Go.Proofs.Ythnfmoaiejaheaa.diskWraps
open Go.ChangeShapes Go.WideShapes Go.ChangeAt Go.RowKit
open Go.Proofs.YthnfmoaiejaheaaW.PrintWords Go.Proofs.YthnfmoaiejaheaaW.PrintLast Go.Proofs.YthnfmoaiejaheaaW.PrintMore
open Go.ChangeMaps (open_string shut_string)
set_option linter.unusedVariables false
theorem own : ownKnob Try.prog.godebug = none := by kernel_rfl
theorem laidOut : laidOutB Try.prog = true := by kernel_rfl
theorem opens_S76 (W : World) : O.Opens Try.prog W PDiskWraps.k76 76 Pure.okS76 := by
 intro H enc fuel cs x h
 obtain ⟨n, hl, hf⟩ := O.struct_cells Try.underlying76 (by kernel_rfl) (by kernel_rfl) h
 obtain ⟨v0, y0, c0, t0⟩ := hf 0 _ rfl
 obtain ⟨n0, e0, w0⟩ := O.opens_int (k := .u8) Try.underlying5 H enc n [v0] y0 t0
 obtain rfl : v0 = .int .u8 n0 := (List.cons.inj e0).1
 obtain ⟨v1, y1, c1, t1⟩ := hf 1 _ rfl
 obtain ⟨n1, e1, w1⟩ := O.opens_string Try.underlying9 H enc n [v1] y1 t1
 obtain rfl : v1 = .string n1 := (List.cons.inj e1).1
 obtain ⟨v2, y2, c2, t2⟩ := hf 2 _ rfl
 obtain ⟨n2, ⟨A2, k2, e2, l2, g2⟩, w2⟩ := O.opens_slice (d := Kd.int .u8) Try.underlying22 rfl (O.opens_int (k := .u8) Try.underlying5) H enc n [v2] y2 t2
 obtain rfl : v2 = .slice A2 n2.length k2 := (List.cons.inj e2).1
 have hcs : cs = [.int .u8 n0, .string n1, .slice A2 n2.length k2] := by
  clear hf
  apply List.ext_getElem?
  intro j
  match j with
  | 0 => exact c0
  | 1 => exact c1
  | 2 => exact c2
  | j + 3 => rw [List.getElem?_eq_none (by rw [hl]; show 3 ≤ j + 3; omega)]; rfl
 subst hcs
 exact ⟨⟨n0, n1, n2⟩, PDiskWraps.k76_mk W _ l2 g2, w0, w1, w2⟩
set_option maxRecDepth 100000 in
theorem lifted (os : Os) (started : os.Started) (H : Type) (enc : TypeId × Value → H) :
  ReturnsInHanded {} Try.checked os 6 .any (Rows.diskWrapsSpec.pre6 enc Try.prog Try.f6 Rows.diskWrapsRow.domain false) (Rows.diskWrapsSpec.post enc Try.prog Try.f6 false true false false) := by
 refine returnsInHanded_of_change_sized (C := Try.checked) own started (by kernel_rfl) Try.func6
  (ChangeSpec.witness6 (enc := enc) (C := Try.checked) false ⟨#[], #[.int .u8 0, .slice none 0 0, .int .u16 0, .int .u8 0], []⟩ 8 (by kernel_rfl) (by kernel_rfl) (by kernel_rfl) (by kernel_rfl)) ?_
 intro W base args ds gs before hval0 hW hcnd hsz0 _
 have hsz : (DataW.weightsEach Try.prog (Try.f6.params.toList ++ Rows.diskWrapsSpec.plain.varTypes Try.prog) (ds ++ gs)).all (· ≤ reachBytes) = true := hsz0
 have hval : ∀ (j : Nat) t v, Try.f6.params[j]? = some t → args[j]? = some v → Value.okWide Try.prog W .any base t v := hval0
 have hW' := hW
 obtain ⟨p, q, hA0, hV, rfl, hfz, hnd⟩ := hW
 have hA : DataW.TrodAll enc Try.prog W 0 (fun _ => true) true Try.f6.params.toList args.toList ds p := hA0
 rw [Try.params6] at hA hval hsz
 obtain ⟨v0, vs0, d0, ds0, p0, q0, hargs, rfl, rfl, h0, r0⟩ := trodAll_cons hA
 obtain ⟨v1, vs1, d1, ds1, p1, q1, rfl, rfl, rfl, h1, r1⟩ := trodAll_cons r0
 obtain ⟨v2, vs2, d2, ds2, p2, q2, rfl, rfl, rfl, h2, r2⟩ := trodAll_cons r1
 obtain ⟨v3, vs3, d3, ds3, p3, q3, rfl, rfl, rfl, h3, r3⟩ := trodAll_cons r2
 obtain ⟨rfl, rfl, rfl⟩ := trodAll_nil r3
 obtain rfl : args = #[v0, v1, v2, v3] := by cases args; simp_all
 obtain ⟨rfl, rfl⟩ := trodVars_none hV
 obtain ⟨a0, rfl, rfl, rfl, w0⟩ := open_int Try.underlying5 (hval 0 5 v0 rfl rfl) h0
 obtain ⟨a1, len1, cap1, rfl⟩ := okWide_slice Try.underlying53 (hval 1 53 v1 rfl rfl)
 have k1 := h1
 have lt1 : ∀ x ∈ p1, x.block < W.heap.size := by obtain ⟨m, hm⟩ := k1; exact DataW.trod_lt m _ _ _ hm
 obtain ⟨l1, rfl, hr1, hc1, hm1, hw1⟩ := O.came (O.opens_slice (d := PDiskWraps.k76) Try.underlying53 rfl (opens_S76 _)) h1
 obtain ⟨a2, rfl, rfl, rfl, w2⟩ := open_int Try.underlying54 (hval 2 54 v2 rfl rfl) h2
 obtain ⟨a3, rfl, rfl, rfl, w3⟩ := open_int Try.underlying5 (hval 3 5 v3 rfl rfl) h3
 clear hA0 hval0 hsz0 hsz
 obtain ⟨k, hk⟩ := Pure.DiskWraps a0 l1 a2 a3 w0 ⟨hm1, hw1⟩ w2 w3
 refine (PDiskWraps.kotatsulaw06_DiskWraps.calls k a0 a1 cap1 l1 a2 a3 true W hr1 hc1 hk).mono fun e W' ⟨he, bel⟩ => ?_
 subst he
 exact ⟨_, rfl, _, _, _, [], _, [], hW', trodAll_mk1 (shut_bool Try.underlying4 _), (trodAll_cons_mk (shut_int Try.underlying5 w0) (trodAll_cons_mk (Below.trod laidOut (by kernel_rfl) (of_decide_eq_true (by kernel_rfl)) k1 bel lt1) (trodAll_cons_mk (shut_int Try.underlying54 w2) (trodAll_cons_mk (shut_int Try.underlying5 w3) trodAll_mk0)))), rfl, bel.frame _, fun h => by cases h⟩
theorem over : Rows.diskWrapsRow.holds Try.pinned (OpenSpec.ofChange Rows.diskWrapsSpec) :=
 OpenClaim.holds_of_wide 6 Try.f6 rfl rfl rfl rfl rfl rfl rfl ⟨rfl, rfl, rfl, rfl, rfl⟩ rfl rfl rfl rfl rfl (by kernel_rfl) Try.func6 (by kernel_rfl)
  (of_decide_eq_true (by kernel_rfl)) (by unfold Func.isWrapper; first | (rw [if_pos (by decide +kernel)]; kernel_rfl) | (rw [if_neg (by decide +kernel)]; exact ⟨rfl, rfl⟩))
  (fun os started H enc _ => lifted os started H enc)
theorem proved : Rows.DiskWrapsSaid := over
#print axioms proved
end Go.Proofs.Ythnfmoaiejaheaa.diskWraps
namespace Go.Proofs.Ythnfmoaiejaheaa
/-- The row, under a short name, for the claim. -/
theorem diskWraps_holds : Rows.DiskWrapsSaid := diskWraps.proved
end Go.Proofs.Ythnfmoaiejaheaa
