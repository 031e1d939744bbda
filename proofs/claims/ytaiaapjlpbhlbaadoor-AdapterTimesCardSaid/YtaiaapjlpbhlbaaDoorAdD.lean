/-
  WHAT IS PUT INTO THE ADAPTER's REGISTERS: the timer's, and the one that opens. By the prover of this repo.
-/
import Derived.Test.YtaiaapjlpbhlbaaDoorAdC
namespace Go.Proofs.YtaiaapjlpbhlbaaDoor.Ada
open Go.RowKit Go.Proofs.YtaiaapjlpbhlbaaDoorW.PrintWords Go.Proofs.YtaiaapjlpbhlbaaDoorW.PrintLast Go.Proofs.YtaiaapjlpbhlbaaDoorW.PrintMore
set_option linter.unusedVariables false
set_option linter.unusedSimpArgs false
set_option maxRecDepth 20000
theorem andnot0 (b : Int) (hb : U8 b) : Go.bits .or .u16 (Go.bits .andNot .u16 0 255) b = b := by
  rw [show Go.bits .andNot .u16 0 255 = 0 * 256 by decide, or16 0 b ⟨by decide, by decide⟩ hb]
  omega
/-- the low byte, into nothing -/
theorem put_low (base : Nat) (W : World) (p : P) (a : A) (d : Drv.D) (u : Wave.V) (h : Is base W p a d u) (b : Int) (hb : U8 b) (h0 : a.from_ = 0) :
    Calls Tryd.prog 11 #[.pointer (some ⟨p.g, 0, none⟩), .int .u16 16416, .int .u8 b] W fun e W' => e = .returned (.tuple #[]) ∧ Is base W' p { a with from_ := b } d u ∧ Turn base W W' (Foot p) := by
  have H := Aside0.mk h
  have c2 : W.cell? ⟨p.g, 2, none⟩ = some (.int .u16 a.from_) := h.cell 2
  have f2 := h.frozen 2
  rw [h0] at c2
  have e1 := andnot0 b hb
  have e2 : IntKind.u16.wrap b = b := by obtain ⟨b0, b1⟩ := hb; rw [IntKind.wrap_u16]; omega
  clear h h0 hb
  go_enter Tryd.func11, Tryd.ntmps11
  go_wp2
  go_end0
  exact ⟨rfl, H.out.set_ 2 _ rfl, (Drive.Turn.refl _ _ _).set_ (.inl rfl) H.out.bs _⟩
theorem put_high (base : Nat) (W : World) (p : P) (a : A) (d : Drv.D) (u : Wave.V) (h : Is base W p a d u) (b : Int) (hb : U8 b) (h0 : U8 a.from_) :
    Calls Tryd.prog 11 #[.pointer (some ⟨p.g, 0, none⟩), .int .u16 16417, .int .u8 b] W fun e W' => e = .returned (.tuple #[]) ∧ Is base W' p { a with from_ := a.from_ + b * 256 } d u ∧ Turn base W W' (Foot p) := by
  have H := Aside0.mk h
  have c2 : W.cell? ⟨p.g, 2, none⟩ = some (.int .u16 a.from_) := h.cell 2
  have f2 := h.frozen 2
  have e1 : Go.bits .and .u16 a.from_ 255 = a.from_ := by obtain ⟨x0, x1⟩ := h0; rw [and255 _ x0 (by omega)]; omega
  have e2 : IntKind.u16.wrap b = b := by obtain ⟨b0, b1⟩ := hb; rw [IntKind.wrap_u16]; omega
  have e3 : Go.bits .or .u16 a.from_ (b * 256) = a.from_ + b * 256 := or16r b a.from_ hb h0
  have e4 : IntKind.u16.wrap (b * 256) = b * 256 := by obtain ⟨b0, b1⟩ := hb; rw [IntKind.wrap_u16]; omega
  clear h h0 hb
  go_enter Tryd.func11, Tryd.ntmps11
  go_wp2
  go_end0
  exact ⟨rfl, H.out.set_ 2 _ rfl, (Drive.Turn.refl _ _ _).set_ (.inl rfl) H.out.bs _⟩
theorem put_open (base : Nat) (W : World) (p : P) (a : A) (d : Drv.D) (u : Wave.V) (h : Is base W p a d u) (b : Int) (hb : U8 b) :
    Calls Tryd.prog 11 #[.pointer (some ⟨p.g, 0, none⟩), .int .u16 16419, .int .u8 b] W fun e W' => e = .returned (.tuple #[]) ∧ Is base W' p (shutA a b) (shutD d b) u ∧ Turn base W W' (Foot p) := by
  have HS := Aside0.mk (shut_calls base W p a d u h b hb)
  generalize shutA a b = a' at *
  generalize shutD d b = d' at *
  clear h hb
  go_enter Tryd.func11, Tryd.ntmps11
  go_wp2_with fail
  refine HS.out.mono ?_
  rintro e w2 ⟨rfl, hi, ht⟩
  have H2 := Aside0.mk hi; have T2 := Aside0.mk ht; clear hi ht
  go_wp2
  go_end0
  exact ⟨rfl, H2.out, T2.out⟩
def timA (a : A) (b : Int) : A := if bit b 2 = true then { a with on := true, rep := bit b 1, count := a.from_ } else { a with on := false, rep := bit b 1, exp := false }
theorem disk_timer (base : Nat) (W : World) (p : P) (a : A) (d : Drv.D) (u : Wave.V) (h : Is base W p a d u) (b : Int) (hb : U8 b) :
    Calls Tryd.prog 43 #[.pointer (some ⟨p.g, 0, none⟩), .int .u16 16418, .int .u8 b] W fun e W' => e = .returned (.tuple #[]) ∧ Is base W' p (timA a b) d u ∧ Turn base W W' (Foot p) := by
  have H := Aside0.mk h
  have c2 : W.cell? ⟨p.g, 2, none⟩ = some (.int .u16 a.from_) := h.cell 2
  have c3 : W.cell? ⟨p.g, 3, none⟩ = some (.int .u16 a.count) := h.cell 3
  have c4 : W.cell? ⟨p.g, 4, none⟩ = some (.bool a.on) := h.cell 4
  have c5 : W.cell? ⟨p.g, 5, none⟩ = some (.bool a.rep) := h.cell 5
  have c6 : W.cell? ⟨p.g, 6, none⟩ = some (.bool a.exp) := h.cell 6
  have f3 := h.frozen 3
  have f4 := h.frozen 4
  have f5 := h.frozen 5
  have f6 := h.frozen 6
  have a1 := and_bit b hb 1 (by decide)
  have a2 := and_bit b hb 2 (by decide)
  unfold timA
  cases h1 : bit b 1 <;> cases h2 : bit b 2
  all_goals
    rw [h1] at a1
    rw [h2] at a2
    clear h hb h1 h2
    go_enter Tryd.func43, Tryd.ntmps43
    go_wp2
    go_end0
  · exact ⟨rfl, ((H.out.set_ (a' := { a with on := false }) 4 (.bool false) rfl).set_ (a' := { a with on := false, rep := false }) 5 (.bool false) rfl).set_ 6 (.bool false) rfl, (((Drive.Turn.refl _ _ _).set_ (.inl rfl) H.out.bs _).set_ (.inl rfl) H.out.bs _).set_ (.inl rfl) H.out.bs _⟩
  · exact ⟨rfl, ((H.out.set_ (a' := { a with on := true }) 4 (.bool true) rfl).set_ (a' := { a with on := true, rep := false }) 5 (.bool false) rfl).set_ 3 (.int .u16 a.from_) rfl, (((Drive.Turn.refl _ _ _).set_ (.inl rfl) H.out.bs _).set_ (.inl rfl) H.out.bs _).set_ (.inl rfl) H.out.bs _⟩
  · exact ⟨rfl, ((H.out.set_ (a' := { a with on := false }) 4 (.bool false) rfl).set_ (a' := { a with on := false, rep := true }) 5 (.bool true) rfl).set_ 6 (.bool false) rfl, (((Drive.Turn.refl _ _ _).set_ (.inl rfl) H.out.bs _).set_ (.inl rfl) H.out.bs _).set_ (.inl rfl) H.out.bs _⟩
  · exact ⟨rfl, ((H.out.set_ (a' := { a with on := true }) 4 (.bool true) rfl).set_ (a' := { a with on := true, rep := true }) 5 (.bool true) rfl).set_ 3 (.int .u16 a.from_) rfl, (((Drive.Turn.refl _ _ _).set_ (.inl rfl) H.out.bs _).set_ (.inl rfl) H.out.bs _).set_ (.inl rfl) H.out.bs _⟩
theorem put_timer (base : Nat) (W : World) (p : P) (a : A) (d : Drv.D) (u : Wave.V) (h : Is base W p a d u) (ho : U8 a.opn) (h1 : bit a.opn 1 = true) (b : Int) (hb : U8 b) :
    Calls Tryd.prog 11 #[.pointer (some ⟨p.g, 0, none⟩), .int .u16 16418, .int .u8 b] W fun e W' => e = .returned (.tuple #[]) ∧ Is base W' p (timA a b) d u ∧ Turn base W W' (Foot p) := by
  have HS := Aside0.mk (disk_timer base W p a d u h b hb)
  have c7 : W.cell? ⟨p.g, 7, none⟩ = some (.int .u8 a.opn) := h.cell 7
  have a1 := and_bit a.opn ho 1 (by decide)
  rw [h1] at a1
  generalize timA a b = a' at *
  clear h hb ho h1
  go_enter Tryd.func11, Tryd.ntmps11
  go_wp2_with fail
  refine HS.out.mono ?_
  rintro e w2 ⟨rfl, hi, ht⟩
  have H2 := Aside0.mk hi; have T2 := Aside0.mk ht; clear hi ht
  go_wp2
  go_end0
  exact ⟨rfl, H2.out, T2.out⟩
end Go.Proofs.YtaiaapjlpbhlbaaDoor.Ada
