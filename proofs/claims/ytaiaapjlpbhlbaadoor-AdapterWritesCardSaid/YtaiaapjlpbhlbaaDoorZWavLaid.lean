/-
 WHAT THE LAID VARIABLE GIVES THE WALKS. By the prover of this repo.
-/
import Derived.Test.YtaiaapjlpbhlbaaDoorRows
import Derived.Test.YtaiaapjlpbhlbaaDoorZWavC
import Derived.ProofKit
import Derived.LaidMore
import Derived.OpenShut
import Derived.Stop.Joined
namespace Go.Proofs.YtaiaapjlpbhlbaaDoor.Wave
open Go.ChangeShapes Go.WideShapes Go.ChangeAt Go.WideMaps Go.WideElems Go.RowKit Go.Proofs.YtaiaapjlpbhlbaaDoorW.PrintWords Go.Proofs.YtaiaapjlpbhlbaaDoorW.PrintLast Go.Proofs.YtaiaapjlpbhlbaaDoorW.PrintMore
theorem own : ownKnob Tryd.prog.godebug = none := by kernel_rfl
theorem laidOut : laidOutB Tryd.prog = true := by kernel_rfl
theorem gMasters : Tryd.prog.globalNamed "kotatsu/wave.masters" = some 0 := by kernel_rfl
theorem tMasters : (Tryd.prog.globals[0]?).map (·.type) = some 127 := by kernel_rfl
def laid1 : List (String × DataW Unit) := [("kotatsu/wave.masters", Rows.laid_kotatsu_wave_masters)]
theorem door_met1 (os : Os) (args : Array Value) : laidMetH Tryd.prog laid1 ((World.doorLaid Tryd.prog 400 os).forCall (fun _ _ => 0) ⟨#[], args, []⟩).memory :=
 laidMetH_of_parts3 (fuel := 8) (laidMet_of_run' 8 (by kernel_rfl) (by kernel_rfl)) (by kernel_rfl) (by kernel_rfl)
theorem of_laid1 {W : World} (h : laidMetH Tryd.prog laid1 W) : MS W := by
 rw [MakeChecks.laidMetH_plain _ _ _ (by kernel_rfl)] at h
 obtain ⟨ps, ⟨g0, t0, cs0, f0, p0, q0, hg0, ht0, hv0, hd0, _, _⟩, _, _⟩ := h
 obtain rfl := Option.some.inj (gMasters.symm.trans hg0)
 obtain rfl := Option.some.inj (tMasters.symm.trans ht0)
 obtain ⟨xs, m1, rfl, hx1, hlen, hn3, hel⟩ := DataW.trod_array Tryd.underlying127 hd0
 have c3 : Tryd.prog.cellsOf 3 = 1 := by kernel_rfl
 have hmap : xs.map (fun x => x.fst) = [.lit (.int .i64 30), .lit (.int .i64 20), .lit (.int .i64 15), .lit (.int .i64 12)] := by
  have h1 := congrArg Prod.fst hx1
  have h2 : DataW.agg (xs.map (fun x => x.fst)) = DataW.agg [.lit (.int .i64 30), .lit (.int .i64 20), .lit (.int .i64 15), .lit (.int .i64 12)] := h1.symm
  injection h2
 intro i i0 i1
 obtain ⟨n, rfl⟩ := Int.eq_ofNat_of_zero_le i0
 have hn4 : n < 4 := by omega
 have hn : n < xs.length := by omega
 have hx := hel n hn4
 rw [List.getElem?_eq_getElem hn, c3, Nat.mul_one] at hx
 obtain ⟨k, e1, e2, _⟩ := DataW.trod_int Tryd.underlying3 hx
 have hk : (xs.map (fun x => x.fst))[n]? = some (.lit (.int .i64 k)) := by
  rw [List.getElem?_map, List.getElem?_eq_getElem hn, e2]; rfl
 rw [hmap] at hk
 have hkv : k = rd ML (n : Int) := by
  rcases (show n = 0 ∨ n = 1 ∨ n = 2 ∨ n = 3 by omega) with rfl | rfl | rfl | rfl <;> simp at hk <;> rw [← hk] <;> rfl
 have hc : cs0[n]? = some (.int .i64 k) := by
  have h1 : (List.take 1 (List.drop n cs0.toList))[0]? = some (.int .i64 k) := by rw [e1]; rfl
  rw [List.getElem?_take, if_pos (by decide), List.getElem?_drop, Nat.add_zero] at h1
  rw [← Array.getElem?_toList]; exact h1
 have hw := World.var?_cell hg0 hv0 n
 rw [hc, hkv] at hw
 exact hw
end Go.Proofs.YtaiaapjlpbhlbaaDoor.Wave
