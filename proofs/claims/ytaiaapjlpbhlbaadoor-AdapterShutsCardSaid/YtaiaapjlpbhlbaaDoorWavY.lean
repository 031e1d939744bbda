/-
  THE REFERENCE's Put, whole. By the prover of this repo.
-/
import Derived.Test.YtaiaapjlpbhlbaaDoorWavX
namespace Go.Proofs.YtaiaapjlpbhlbaaDoor.Wave
open Go.RowKit Go.Proofs.YtaiaapjlpbhlbaaDoorW.PrintWords Go.Proofs.YtaiaapjlpbhlbaaDoorW.PrintLast Go.Proofs.YtaiaapjlpbhlbaaDoorW.PrintMore
set_option linter.unusedVariables false
theorem rPut_all (base : Nat) (g : Nat) (v : V) (cy : Int) (W : World) (h : IsR base W g v cy) (hw : Wf v) (a : Int) (a0 : 0 ≤ a) (a1 : a < 65536) (b : Int) (hb : U8 b) :
    Calls Tryd.prog 57 #[.pointer (some ⟨g, 0, none⟩), .int .i64 a, .int .i64 b] W fun e W' => e = .returned (.tuple #[]) ∧ IsR base W' g (putV v a b) cy ∧ Turn base W W' (One g) := by
  unfold putV
  by_cases h0 : a < 16448 ∨ 16523 ≤ a
  · rw [if_pos h0]; exact rPut_out base g v cy W h a a0 a1 h0 b
  rw [if_neg h0]
  by_cases h1 : a < 16512
  · rw [if_pos h1]; exact rPut_tab base g v cy W h hw a (by omega) h1 b hb
  rw [if_neg h1]
  by_cases h2 : a = 16512
  · subst h2; rw [if_pos rfl]; exact rPut_vol base g v cy W h hw b hb
  rw [if_neg h2]
  by_cases h3 : a = 16515
  · subst h3; rw [if_pos rfl]; exact rPut_hig base g v cy W h hw b hb
  rw [if_neg h3]
  by_cases h4 : a = 16516
  · subst h4; rw [if_pos rfl]; exact rPut_tur base g v cy W h hw b hb
  rw [if_neg h4]
  by_cases h5 : a = 16517
  · subst h5; rw [if_pos rfl]; exact rPut_cou base g v cy W h hw b hb
  rw [if_neg h5]
  by_cases h6 : a = 16519
  · subst h6; rw [if_pos rfl]; exact rPut_thi base g v cy W h hw b hb
  rw [if_neg h6]
  by_cases h7 : a = 16520
  · subst h7; rw [if_pos rfl]; exact rPut_trn base g v cy W h hw b hb
  rw [if_neg h7]
  by_cases h8 : a = 16521
  · subst h8; rw [if_pos rfl]; exact rPut_mas base g v cy W h hw b hb
  rw [if_neg h8]
  exact rPut_plain base g v cy W h hw a (a - 16512).toNat (by omega) b hb
end Go.Proofs.YtaiaapjlpbhlbaaDoor.Wave
