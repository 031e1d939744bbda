/-
  WHAT IS PUT INTO THE ADAPTER's REGISTERS. By the prover of this repo.
-/
import Derived.Test.YtaiaapjlpbhlbaaDoorAdB
namespace Go.Proofs.YtaiaapjlpbhlbaaDoor.Ada
open Go.RowKit Go.Proofs.YtaiaapjlpbhlbaaDoorW.PrintWords Go.Proofs.YtaiaapjlpbhlbaaDoorW.PrintLast Go.Proofs.YtaiaapjlpbhlbaaDoorW.PrintMore
set_option linter.unusedVariables false
set_option linter.unusedSimpArgs false
set_option maxRecDepth 20000
def mot (d : Drv.D) (on : Bool) : Drv.D := if d.motor = on then d else Drive.back { d with motor := on }
def cmdA (a : A) (b : Int) : A := if bit b 64 = true ∧ bit b 2 = false then { a with ctl := b } else { a with ctl := b, found := false, sum := 32768, tail := 0 }
theorem command_calls (base : Nat) (W : World) (p : P) (a : A) (d : Drv.D) (u : Wave.V) (h : Is base W p a d u) (b : Int) (hb : U8 b) :
    Calls Tryd.prog 75 #[.pointer (some ⟨p.g, 0, none⟩), .int .u8 b] W fun e W' => e = .returned (.tuple #[]) ∧ Is base W' p (cmdA a b) (mot d (bit b 1)) u ∧ Turn base W W' (Foot p) := by
  have H := Aside0.mk h
  have c8 : W.cell? ⟨p.g, 8, none⟩ = some (.int .u8 a.ctl) := h.cell 8
  have f8 := h.frozen 8
  have a1 := and_bit b hb 1 (by decide)
  have a2 := and_bit b hb 2 (by decide)
  have a64 := and_bit b hb 64 (by decide)
  have H1 := Aside0.mk (h.set_ (a' := { a with ctl := b }) 8 (.int .u8 b) rfl)
  have c0 : (W.setCell ⟨p.g, 8, none⟩ (.int .u8 b)).cell? ⟨p.g, 0, none⟩ = some (.pointer (some ⟨p.gd, 0, none⟩)) := H1.out.cell 0
  have HM := Aside0.mk (Drive.motor_calls base p.gd p.v d (bit b 1) _ H1.out.dr)
  have HE := Aside0.mk (show (if d.motor = bit b 1 then d else Drive.back { d with motor := bit b 1 }) = mot d (bit b 1) from rfl)
  rw [HE.out] at HM
  have T1 := Aside0.mk ((Drive.Turn.refl base W (Foot p)).set_ (i := 8) (.inl rfl) h.bs (.int .u8 b))
  unfold cmdA
  generalize mot d (bit b 1) = d' at *
  clear h hb HE
  cases h1 : bit b 1 <;> cases h2 : bit b 2 <;> cases h3 : bit b 64
  all_goals
    rw [h1] at a1 HM
    rw [h2] at a2
    rw [h3] at a64
    clear h1 h2 h3
    go_enter Tryd.func75, Tryd.ntmps75
    go_wp2_with fail
    refine HM.out.mono ?_
    rintro e w2 ⟨rfl, hi, ht⟩
    have H2 := Aside0.mk (H1.out.after_drive hi ht); have T2 := Aside0.mk (T1.out.trans (of_drive ht)); clear hi ht
    have k13 : w2.cell? ⟨p.g, 13, none⟩ = some (.bool a.found) := H2.out.cell 13
    have k14 : w2.cell? ⟨p.g, 14, none⟩ = some (.int .u16 a.sum) := H2.out.cell 14
    have k15 : w2.cell? ⟨p.g, 15, none⟩ = some (.int .i64 a.tail) := H2.out.cell 15
    have f13 := H2.out.frozen 13
    have f14 := H2.out.frozen 14
    have f15 := H2.out.frozen 15
    have H5 := Aside0.mk (((H2.out.set_ (a' := { a with ctl := b, found := false }) 13 (.bool false) rfl).set_ (a' := { a with ctl := b, found := false, sum := 32768 }) 14 (.int .u16 32768) rfl).set_ (a' := { a with ctl := b, found := false, sum := 32768, tail := 0 }) 15 (.int .i64 0) rfl)
    have T5 := Aside0.mk (((T2.out.set_ (i := 13) (.inl rfl) H.out.bs (.bool false)).set_ (i := 14) (.inl rfl) H.out.bs (.int .u16 32768)).set_ (i := 15) (.inl rfl) H.out.bs (.int .i64 0))
    go_wp2
    go_end0
    first
      | exact ⟨rfl, H5.out, T5.out⟩
      | exact ⟨rfl, H2.out, T2.out⟩
def shutA (a : A) (b : Int) : A := if bit b 1 = true then { a with opn := b } else cmdA { a with opn := b, on := false, exp := false, asks := false } 0
def shutD (d : Drv.D) (b : Int) : Drv.D := if bit b 1 = true then d else mot d false
theorem shut_calls (base : Nat) (W : World) (p : P) (a : A) (d : Drv.D) (u : Wave.V) (h : Is base W p a d u) (b : Int) (hb : U8 b) :
    Calls Tryd.prog 41 #[.pointer (some ⟨p.g, 0, none⟩), .int .u8 b] W fun e W' => e = .returned (.tuple #[]) ∧ Is base W' p (shutA a b) (shutD d b) u ∧ Turn base W W' (Foot p) := by
  have H := Aside0.mk h
  have c7 : W.cell? ⟨p.g, 7, none⟩ = some (.int .u8 a.opn) := h.cell 7
  have c4 : W.cell? ⟨p.g, 4, none⟩ = some (.bool a.on) := h.cell 4
  have c6 : W.cell? ⟨p.g, 6, none⟩ = some (.bool a.exp) := h.cell 6
  have c12 : W.cell? ⟨p.g, 12, none⟩ = some (.bool a.asks) := h.cell 12
  have f7 := h.frozen 7
  have f4 := h.frozen 4
  have f6 := h.frozen 6
  have f12 := h.frozen 12
  have a1 := and_bit b hb 1 (by decide)
  have H1 := Aside0.mk (h.set_ (a' := { a with opn := b }) 7 (.int .u8 b) rfl)
  have T1 := Aside0.mk ((Drive.Turn.refl base W (Foot p)).set_ (i := 7) (.inl rfl) h.bs (.int .u8 b))
  unfold shutA shutD
  cases h1 : bit b 1
  · rw [h1] at a1
    rw [if_neg (by decide), if_neg (by decide)]
    have H4 := Aside0.mk (((H1.out.set_ (a' := { a with opn := b, on := false }) 4 (.bool false) rfl).set_ (a' := { a with opn := b, on := false, exp := false }) 6 (.bool false) rfl).set_ (a' := { a with opn := b, on := false, exp := false, asks := false }) 12 (.bool false) rfl)
    have T4 := Aside0.mk (((T1.out.set_ (i := 4) (.inl rfl) h.bs (.bool false)).set_ (i := 6) (.inl rfl) h.bs (.bool false)).set_ (i := 12) (.inl rfl) h.bs (.bool false))
    have HC := Aside0.mk (command_calls base _ p _ d u H4.out 0 ⟨by decide, by decide⟩)
    rw [show bit 0 1 = false by decide] at HC
    clear h hb h1 H1 T1
    go_enter Tryd.func41, Tryd.ntmps41
    go_wp2_with fail
    refine HC.out.mono ?_
    rintro e w2 ⟨rfl, hi, ht⟩
    have H2 := Aside0.mk hi; have T2 := Aside0.mk (T4.out.trans ht); clear hi ht
    go_wp2
    go_end0
    exact ⟨rfl, H2.out, T2.out⟩
  · rw [h1] at a1
    rw [if_pos (by decide), if_pos (by decide)]
    clear h hb h1
    go_enter Tryd.func41, Tryd.ntmps41
    go_wp2
    go_end0
    exact ⟨rfl, H1.out, T1.out⟩
end Go.Proofs.YtaiaapjlpbhlbaaDoor.Ada
