/-
  OF A NIL DRIVE THERE IS NOTHING: the law's walk. By the prover of this repo.
-/
import Derived.Test.YtmfdmfflbdghfaaDrvC
namespace Go.Proofs.Ytmfdmfflbdghfaa.Drive
open Go.RowKit Go.Proofs.YtmfdmfflbdghfaaW.PrintWords Go.Proofs.YtmfdmfflbdghfaaW.PrintLast Go.Proofs.YtmfdmfflbdghfaaW.PrintMore
set_option linter.unusedVariables false
set_option linter.unusedSimpArgs false
set_option maxHeartbeats 1000000 in
theorem nil_walk (A : Option Addr) (l : List Int) (c : Nat) (b : Int) (on : Bool) (W : World) (hC : (Kd.int .u8).C W A l.length l) (hc : l.length ≤ c) (hy : l.length * 1 ≤ 140737488351232) (hw : ∀ x ∈ l, (Lit.int .u8 x).wf = true) (hb : (Lit.int .u8 b).wf = true) :
    Calls Try.prog 7 #[.slice A l.length c, .int .u8 b, .bool on] W fun e W' => e = .returned (.bool true) ∧ Below W.heap.size W W' := by
  clear hC hc hy hw hb
  generalize l.length = n
  go_enter Try.func7, Try.ntmps7
  go_wp2_with (first
    | (go_at_call 8; refine (awake_calls _).mono ?_; rintro e w1 ⟨rfl, hb⟩; have HB := Aside0.mk hb; clear hb)
    | (go_at_call 22; refine (nil_protect _ _).mono ?_; rintro e W' ⟨rfl, rfl⟩)
    | (go_at_call 12; refine (nil_motor _ _).mono ?_; rintro e W' ⟨rfl, rfl⟩)
    | (go_at_call 25; refine (nil_last _).mono ?_; rintro e W' ⟨rfl, rfl⟩)
    | (go_at_call 11; refine (nil_insert _ _ _ _).mono ?_; rintro e W' ⟨rfl, rfl⟩)
    | (go_at_call 18; refine (nil_eject _).mono ?_; rintro e W' ⟨rfl, rfl⟩)
    | (go_at_call 16; refine (nil_side _).mono ?_; rintro e W' ⟨rfl, rfl⟩)
    | (go_at_call 19; refine (nil_has _).mono ?_; rintro e W' ⟨rfl, rfl⟩)
    | (go_at_call 13; refine (nil_clock _).mono ?_; rintro e W' ⟨rfl, rfl⟩)
    | (go_at_call 15; refine (nil_ready _).mono ?_; rintro e W' ⟨rfl, rfl⟩)
    | (go_at_call 21; refine (nil_at _).mono ?_; rintro e W' ⟨rfl, rfl⟩)
    | (go_at_call 14; refine (nil_get _).mono ?_; rintro e W' ⟨rfl, rfl⟩)
    | (go_at_call 20; refine (nil_lay _ _).mono ?_; rintro e W' ⟨rfl, rfl⟩)
    | (go_at_call 17; refine (nil_copy _).mono ?_; rintro e W' ⟨rfl, rfl⟩))
  go_ret
  exact ⟨rfl, HB.out⟩
end Go.Proofs.Ytmfdmfflbdghfaa.Drive
