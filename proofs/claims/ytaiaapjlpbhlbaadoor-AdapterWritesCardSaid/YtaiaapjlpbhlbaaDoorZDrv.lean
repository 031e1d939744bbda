/-
 THE DRIVE's METHODS, each by its contract: what it returns and what becomes of its struct, in Drv.D's words. By the prover of this repo.
-/
import Derived.Test.YtaiaapjlpbhlbaaDoorZWMore
import Derived.Test.YtaiaapjlpbhlbaaDoorZWNEv
import Derived.Test.YtaiaapjlpbhlbaaDoorZShelf
import Derived.Deep.Draws
import Derived.Deep.QuietTactic
import Derived.BigQuiet
import Derived.WalkKit
import Derived.KernelRfl
import Derived.Outline
import Derived.RegionTactic
import Derived.ChangeAlike
import Derived.StillTailTactics
namespace Drv

structure D where
 side : List Int
 motor : Bool
 guarded : Bool
 ready : Bool
 left : Int
 pos : Int
 passed : Int
 laid : Bool
 laidAt : Int
 laidB : Int

/-- a cycle -/
def clk (d : D) : D × Bool :=
 if d.motor = false ∨ d.side = [] then ({ d with passed := -1, laid := false }, false)
 else if d.left - 1 > 0 then ({ d with passed := -1, laid := false, left := d.left - 1 }, false)
 else if d.ready = false then ({ d with passed := -1, laid := false, left := 149, ready := true }, false)
 else if d.pos + 1 = d.side.length then ({ d with passed := d.pos, laid := false, ready := false, left := 4000, pos := 0 }, true)
 else ({ d with passed := d.pos, laid := false, left := 149, pos := d.pos + 1 }, true)

/-- where the head is, t cycles behind its going back -/
def goneR (n t : Int) : Bool := decide (4000 ≤ t % (4000 + 149 * n))
def goneL (n t : Int) : Int := if t % (4000 + 149 * n) < 4000 then 4000 - t % (4000 + 149 * n) else 149 - (t % (4000 + 149 * n) - 4000) % 149
def goneP (n t : Int) : Int := if t % (4000 + 149 * n) < 4000 then 0 else (t % (4000 + 149 * n) - 4000) / 149

def Stands (d : D) (t : Int) : Prop := d.ready = goneR d.side.length t ∧ d.left = goneL d.side.length t ∧ d.pos = goneP d.side.length t

/-- does a byte pass in the cycle behind t? which one? -/
def passes (n t : Int) : Bool := decide (0 < t % (4000 + 149 * n) + 1 - 4000 ∧ (t % (4000 + 149 * n) + 1 - 4000) % 149 = 0)
def which (n t : Int) : Int := (t % (4000 + 149 * n) + 1 - 4000) / 149 - 1

theorem mod_step (t R : Int) (hR : 0 < R) : (t + 1) % R = if t % R + 1 = R then 0 else t % R + 1 := by
 have h1 := Int.emod_nonneg t (show R ≠ 0 by omega)
 have h2 := Int.emod_lt_of_pos t hR
 rw [Int.add_emod]
 by_cases h : t % R + 1 = R
 ·rw [if_pos h]
  by_cases h1' : R = 1
  ·subst h1'; omega
  ·rw [show (1 : Int) % R = 1 from Int.emod_eq_of_lt (by omega) (by omega), h, Int.emod_self]
 ·rw [if_neg h]
  rw [show (1 : Int) % R = 1 from Int.emod_eq_of_lt (by omega) (by omega)]
  exact Int.emod_eq_of_lt (by omega) (by omega)

theorem clk_stands (d : D) (t : Int) (hm : d.motor = true) (hs : d.side ≠ []) (h : Stands d t) :
  Stands (clk d).1 (t + 1) ∧ (clk d).2 = passes d.side.length t ∧ (clk d).1.passed = (if passes d.side.length t = true then which d.side.length t else -1) ∧
  (clk d).1.side = d.side ∧ (clk d).1.motor = true ∧ (clk d).1.guarded = d.guarded ∧ (clk d).1.laid = false := by
 obtain ⟨h1, h2, h3⟩ := h
 have hn : 0 < d.side.length := List.length_pos_iff.2 hs
 obtain ⟨n, hn'⟩ : ∃ n : Int, n = d.side.length := ⟨_, rfl⟩
 have hn0 : 0 < n := by omega
 have hstep := mod_step t (4000 + 149 * n) (by omega)
 have hu0 := Int.emod_nonneg t (show 4000 + 149 * n ≠ 0 by omega)
 have hu1 := Int.emod_lt_of_pos t (show 0 < 4000 + 149 * n by omega)
 unfold clk
 rw [if_neg (by simp [hm, hs])]
 unfold Stands goneR goneL goneP passes which at *
 rw [← hn'] at h1 h2 h3 ⊢
 generalize t % (4000 + 149 * n) = u at *
 by_cases c0 : u < 4000
 ·rw [if_pos c0] at h2 h3
  have hr : d.ready = false := by rw [h1]; simp; omega
  by_cases c1 : d.left - 1 > 0
  ·rw [if_pos c1]
   have hk : ¬ (u + 1 = 4000 + 149 * n) := by omega
   rw [if_neg hk] at hstep
   have hp : ¬ (0 < u + 1 - 4000 ∧ (u + 1 - 4000) % 149 = 0) := by omega
   simp only [hstep, hp, decide_false, Bool.false_eq_true, if_false, hm, ← hn', and_true]
   refine ⟨?_, ?_, ?_⟩
   ·rw [hr]; simp; omega
   ·rw [if_pos (by omega)]; omega
   ·rw [if_pos (by omega)]; omega
  ·rw [if_neg c1, if_pos hr]
   have hk : ¬ (u + 1 = 4000 + 149 * n) := by omega
   rw [if_neg hk] at hstep
   have hp : ¬ (0 < u + 1 - 4000 ∧ (u + 1 - 4000) % 149 = 0) := by omega
   simp only [hstep, hp, decide_false, Bool.false_eq_true, if_false, hm, ← hn', and_true]
   refine ⟨?_, ?_, ?_⟩
   ·simp; omega
   ·rw [if_neg (by omega)]; omega
   ·rw [if_neg (by omega)]; omega
 ·rw [if_neg c0] at h2 h3
  have hr : d.ready = true := by rw [h1]; simp; omega
  by_cases c1 : d.left - 1 > 0
  ·rw [if_pos c1]
   have hk : ¬ (u + 1 = 4000 + 149 * n) := by omega
   rw [if_neg hk] at hstep
   have hp : ¬ (0 < u + 1 - 4000 ∧ (u + 1 - 4000) % 149 = 0) := by omega
   simp only [hstep, hp, decide_false, Bool.false_eq_true, if_false, hm, ← hn', and_true]
   refine ⟨?_, ?_, ?_⟩
   ·rw [hr]; simp; omega
   ·rw [if_neg (by omega)]; omega
   ·rw [if_neg (by omega)]; omega
  ·rw [if_neg c1, if_neg (by simp [hr])]
   have hp : 0 < u + 1 - 4000 ∧ (u + 1 - 4000) % 149 = 0 := by omega
   by_cases c2 : d.pos + 1 = n
   ·rw [if_pos c2]
    have hk : u + 1 = 4000 + 149 * n := by omega
    rw [if_pos hk] at hstep
    simp only [hstep, hp, decide_true, if_true, hm, and_true, ← hn']
    refine ⟨⟨by decide, by decide, by decide⟩, ?_⟩
    exact ⟨trivial, by omega⟩
   ·rw [if_neg c2]
    have hk : ¬ (u + 1 = 4000 + 149 * n) := by omega
    rw [if_neg hk] at hstep
    simp only [hstep, hp, decide_true, if_true, hm, and_true, ← hn']
    refine ⟨⟨?_, ?_, ?_⟩, ?_⟩
    ·rw [hr]; simp; omega
    ·rw [if_neg (by omega)]; omega
    ·rw [if_neg (by omega)]; omega
    ·exact ⟨trivial, by omega⟩
end Drv

namespace Go.Proofs.YtaiaapjlpbhlbaaDoor.Drive
open Go.RowKit Go.Proofs.YtaiaapjlpbhlbaaDoorW.PrintWords Go.Proofs.YtaiaapjlpbhlbaaDoorW.PrintLast Go.Proofs.YtaiaapjlpbhlbaaDoorW.PrintMore
set_option linter.unusedVariables false
set_option linter.unusedSimpArgs false

/-! ### a struct's block -/
def At (W : World) (g : Nat) (t : TypeId) (cs : Array Value) : Prop := W.heap[g]? = some (.cells cs t (0, 0))
section
variable {W W1 : World} {g : Nat} {t : TypeId} {cs : Array Value}
theorem At.cell (h : At W g t cs) (i : Nat) : W.cell? ⟨g, i, none⟩ = cs[i]? := by
 unfold At at h
 simp [World.cell?, h]
theorem At.frozen (h : At W g t cs) (i : Nat) : W.frozen? ⟨g, i, none⟩ = false := by
 unfold At at h
 simp [World.frozen?, h]
theorem At.set_ (h : At W g t cs) (i : Nat) (u : Value) : At (W.setCell ⟨g, i, none⟩ u) g t (cs.setIfInBounds i u) := by
 unfold At at h ⊢
 simp [World.setCell, Array.getElem?_modify, h]
theorem At.lt (h : At W g t cs) : g < W.heap.size := by
 rcases Nat.lt_or_ge g W.heap.size with hlt | hge
 ·exact hlt
 ·unfold At at h; rw [Array.getElem?_eq_none hge] at h; cases h
theorem At.below (h : At W g t cs) (hb : Below W.heap.size W W1) : At W1 g t cs := (hb.block g h.lt).trans h
theorem At.far (h : At W g t cs) {p : Addr} (hp : g ≠ p.block) (u : Value) : At (W.setCell p u) g t cs := (Below.heap_setCell W p u g hp).trans h
theorem At.drewN (h : At W g t cs) (n : Nat) : At (W.drewN n) g t cs := h
theorem At.drew (h : At W g t cs) : At W.drew g t cs := h
end

/-- what a call may have turned: the struct's block g and the side's; nothing below 'base' -/
structure Turn (base : Nat) (W W' : World) (S : Nat → Prop) : Prop where
 below : Below base W W'
 kept : ∀ i, i < W.heap.size → ¬ S i → W'.heap[i]? = W.heap[i]?
theorem Turn.refl (base : Nat) (W : World) (S : Nat → Prop) : Turn base W W S := ⟨Below.refl _ _, fun _ _ _ => rfl⟩
theorem Turn.trans {base : Nat} {A B C : World} {S : Nat → Prop} (h : Turn base A B S) (k : Turn base B C S) : Turn base A C S :=
 ⟨h.below.trans k.below, fun i hi hS => (k.kept i (Nat.lt_of_lt_of_le hi h.below.size) hS).trans (h.kept i hi hS)⟩
theorem Turn.mono {base : Nat} {A B : World} {S S' : Nat → Prop} (h : Turn base A B S) (hS : ∀ i, S i → S' i) : Turn base A B S' := ⟨h.below, fun i hi hn => h.kept i hi fun hs => hn (hS i hs)⟩
theorem Turn.set_ {base : Nat} {A B : World} {S : Nat → Prop} (h : Turn base A B S) {g i : Nat} (hg : S g) (hb : base ≤ g) (u : Value) : Turn base A (B.setCell ⟨g, i, none⟩ u) S :=
 ⟨h.below.setCell (p := ⟨g, i, none⟩) hb u, fun j hj hS => by
  rw [Below.heap_setCell B ⟨g, i, none⟩ u j (fun e => hS (by rw [e]; exact hg))]
  exact h.kept j hj hS⟩
theorem Turn.drewN {base : Nat} {A B : World} {S : Nat → Prop} (h : Turn base A B S) (n : Nat) : Turn base A (B.drewN n) S := ⟨⟨h.below.os, h.below.tape, h.below.output, h.below.size, h.below.block⟩, h.kept⟩
theorem Turn.drew {base : Nat} {A B : World} {S : Nat → Prop} (h : Turn base A B S) : Turn base A B.drew S := ⟨h.below.drew, h.kept⟩
theorem Turn.of_below {base : Nat} {A B : World} {S : Nat → Prop} (h : Below A.heap.size A B) (hb : base ≤ A.heap.size) : Turn base A B S := ⟨h.mono hb, fun i hi _ => h.block i hi⟩

/-! ### the drive -/
def cells (v : Value) (d : Drv.D) : Array Value := #[v, .bool d.motor, .bool d.guarded, .bool d.ready, .int .i64 d.left, .int .i64 d.pos, .int .i64 d.passed, .bool d.laid, .int .i64 d.laidAt, .int .u8 d.laidB]
/-- at block g of W, from base on, stands the drive d; its side's slice is v -/
def Is (base : Nat) (W : World) (g : Nat) (v : Value) (d : Drv.D) : Prop := At W g 98 (cells v d) ∧ base ≤ g ∧ Kd.R (Kd.int .u8) 5 W base (fun _ => True) v d.side ∧ d.side.length ≤ 65536
def Foot (g : Nat) (v : Value) (i : Nat) : Prop := i = g ∨ v.ownBlock = some i
section
variable {base : Nat} {W W1 : World} {g : Nat} {v : Value} {d : Drv.D}
theorem Is.set_ (h : Is base W g v d) (i : Nat) (u : Value) {d' : Drv.D} (hs : d'.side = d.side) (hc : (cells v d).setIfInBounds i u = cells v d') : Is base (W.setCell ⟨g, i, none⟩ u) g v d' :=
 ⟨by have := h.1.set_ i u; rwa [hc] at this, h.2.1, by rw [hs]; exact Kd.R_set h.2.2.1 h.1 (by decide) i u, by rw [hs]; exact h.2.2.2⟩
theorem Is.drewN (h : Is base W g v d) (n : Nat) : Is base (W.drewN n) g v d := ⟨h.1, h.2.1, Kd.R_drewN h.2.2.1 n, h.2.2.2⟩
theorem Is.drew (h : Is base W g v d) : Is base W.drew g v d := ⟨h.1, h.2.1, Kd.R_drew h.2.2.1, h.2.2.2⟩
theorem Is.below (h : Is base W g v d) (hb : Below W.heap.size W W1) : Is base W1 g v d := ⟨h.1.below hb, h.2.1, Kd.R_below h.2.2.1 hb, h.2.2.2⟩
theorem Is.c0 (h : Is base W g v d) : W.cell? ⟨g, 0, none⟩ = some v := h.1.cell 0
theorem Is.c1 (h : Is base W g v d) : W.cell? ⟨g, 1, none⟩ = some (.bool d.motor) := h.1.cell 1
theorem Is.c2 (h : Is base W g v d) : W.cell? ⟨g, 2, none⟩ = some (.bool d.guarded) := h.1.cell 2
theorem Is.c3 (h : Is base W g v d) : W.cell? ⟨g, 3, none⟩ = some (.bool d.ready) := h.1.cell 3
theorem Is.c4 (h : Is base W g v d) : W.cell? ⟨g, 4, none⟩ = some (.int .i64 d.left) := h.1.cell 4
theorem Is.c5 (h : Is base W g v d) : W.cell? ⟨g, 5, none⟩ = some (.int .i64 d.pos) := h.1.cell 5
theorem Is.c6 (h : Is base W g v d) : W.cell? ⟨g, 6, none⟩ = some (.int .i64 d.passed) := h.1.cell 6
theorem Is.c7 (h : Is base W g v d) : W.cell? ⟨g, 7, none⟩ = some (.bool d.laid) := h.1.cell 7
theorem Is.c8 (h : Is base W g v d) : W.cell? ⟨g, 8, none⟩ = some (.int .i64 d.laidAt) := h.1.cell 8
theorem Is.c9 (h : Is base W g v d) : W.cell? ⟨g, 9, none⟩ = some (.int .u8 d.laidB) := h.1.cell 9
theorem Is.slice (h : Is base W g v d) : ∃ A c, v = .slice A d.side.length c ∧ d.side.length ≤ c ∧ (Kd.int .u8).C W A d.side.length d.side := by
 obtain ⟨A, c, e, hl, hC⟩ := Kd.R_reads h.2.2.1
 exact ⟨A, c, e, hl, hC⟩
end

/-- the head goes back -/
def back (d : Drv.D) : Drv.D := { d with ready := false, left := 4000, pos := 0 }
theorem back_calls (base : Nat) (g : Nat) (v : Value) (d : Drv.D) (W : World) (h : Is base W g v d) :
  Calls Tryd.prog 61 #[.pointer (some ⟨g, 0, none⟩)] W fun e W' => e = .returned (.tuple #[]) ∧ Is base W' g v (back d) ∧ Turn base W W' (Foot g v) := by
 have H := Aside0.mk h
 have h3 := h.c3
 have h4 := h.c4
 have h5 := h.c5
 have f3 := h.1.frozen 3
 have f4 := h.1.frozen 4
 have f5 := h.1.frozen 5
 clear h
 go_enter Tryd.func61, Tryd.ntmps61
 go_wp2
 go_end0
 refine ⟨rfl, ?_, (((Turn.refl _ _ _).set_ (.inl rfl) H.out.2.1 _).set_ (.inl rfl) H.out.2.1 _).set_ (.inl rfl) H.out.2.1 _⟩
 have a1 := H.out.set_ (d' := { d with ready := false }) 3 (.bool false) rfl rfl
 have a2 := a1.set_ (d' := { d with ready := false, left := 4000 }) 4 (.int .i64 4000) rfl rfl
 exact a2.set_ (d' := back d) 5 (.int .i64 0) rfl rfl

def hasB (d : Drv.D) : Bool := !d.side.isEmpty
theorem hasB_pos {d : Drv.D} (h : d.side ≠ []) : hasB d = true ∧ 0 < d.side.length := by
 unfold hasB
 cases hs : d.side with
 | nil => exact absurd hs h
 | cons x l => simp
theorem has_calls (base : Nat) (g : Nat) (v : Value) (d : Drv.D) (W : World) (h : Is base W g v d) :
  Calls Tryd.prog 33 #[.pointer (some ⟨g, 0, none⟩)] W fun e W' => e = .returned (.bool (hasB d)) ∧ W = W' := by
 obtain ⟨A, c, rfl, hc, _⟩ := h.slice
 have h0 := h.c0
 by_cases hs : d.side = []
 ·have hb : hasB d = false := by unfold hasB; rw [hs]; rfl
  have hn : d.side.length = 0 := by rw [hs]; rfl
  rw [hn] at h0
  rw [hb]
  clear h hc hn hs hb
  go_enter Tryd.func33, Tryd.ntmps33
  go_wp2
  go_ret
  exact ⟨rfl, rfl⟩
 ·obtain ⟨hb, hp⟩ := hasB_pos hs
  rw [hb]
  generalize d.side.length = n at *
  have hd : decide (0 < n) = true := decide_eq_true hp
  clear h hc hb
  go_enter Tryd.func33, Tryd.ntmps33
  go_wp2
  go_ret
  exact ⟨rfl, rfl⟩
theorem new_calls (base : Nat) (W : World) (hb : base ≤ W.heap.size) :
  Calls Tryd.prog 39 #[] W fun e W' => ∃ g, e = .returned (.pointer (some ⟨g, 0, none⟩)) ∧ Is base W' g (.slice none 0 0) ⟨[], false, false, false, 0, 0, -1, false, 0, 0⟩ ∧ Below W.heap.size W W' ∧ W.heap.size ≤ g := by
 go_enter Tryd.func39, Tryd.ntmps39
 go_wp2
 go_ret
 refine ⟨W.heap.size, rfl, ⟨?_, hb, Kd.R_nil _ _ _ _ _, by simp⟩, below_alloc (Below.refl _ _) _, Nat.le_refl _⟩
 unfold At
 exact heap_alloc_new W _
theorem motor_calls (base : Nat) (g : Nat) (v : Value) (d : Drv.D) (on : Bool) (W : World) (h : Is base W g v d) :
  Calls Tryd.prog 96 #[.pointer (some ⟨g, 0, none⟩), .bool on] W fun e W' => e = .returned (.tuple #[]) ∧ Is base W' g v (if d.motor = on then d else back { d with motor := on }) ∧ Turn base W W' (Foot g v) := by
 have H := Aside0.mk h
 have h1 := h.c1
 have f1 := h.1.frozen 1
 have K := Aside0.mk (h.set_ (d' := { d with motor := on }) 1 (.bool on) rfl rfl)
 by_cases hm : d.motor = on
 ·rw [if_pos hm]
  rw [hm] at h1
  clear h hm K
  cases on
  all_goals
   go_enter Tryd.func96, Tryd.ntmps96
   go_wp2
   go_end0
   exact ⟨rfl, H.out, Turn.refl _ _ _⟩
 ·rw [if_neg hm]
  have hx : d.motor = !on := by cases hd : d.motor <;> cases on <;> simp_all
  rw [hx] at h1
  clear h hm hx
  cases on
  all_goals
   simp only [Bool.not_true, Bool.not_false] at h1
   go_enter Tryd.func96, Tryd.ntmps96
   go_wp2_with (go_at_call 61; refine (back_calls base g v _ _ K.out).mono ?_; rintro e W' ⟨rfl, hi, ht⟩)
   go_end0
   exact ⟨rfl, hi, ((Turn.refl _ _ _).set_ (.inl rfl) H.out.2.1 _).trans ht⟩
/-! ### a cycle -/
def Fit (d : Drv.D) : Prop := -10 ≤ d.left ∧ d.left ≤ 4000 ∧ -1 ≤ d.pos ∧ d.pos ≤ 65536
theorem clock_calls (base : Nat) (g : Nat) (v : Value) (d : Drv.D) (W : World) (h : Is base W g v d) (hf : Fit d) :
  Calls Tryd.prog 46 #[.pointer (some ⟨g, 0, none⟩)] W fun e W' => e = .returned (.bool (Drv.clk d).2) ∧ Is base W' g v (Drv.clk d).1 ∧ Turn base W W' (Foot g v) := by
 obtain ⟨hl0, hl1, hp0, hp1⟩ := hf
 have H := Aside0.mk h
 have c0 := h.c0
 have c1 := h.c1
 have c3 := h.c3
 have c4 := h.c4
 have c5 := h.c5
 have c6 := h.c6
 have c7 := h.c7
 have f3 := h.1.frozen 3
 have f4 := h.1.frozen 4
 have f5 := h.1.frozen 5
 have f6 := h.1.frozen 6
 have f7 := h.1.frozen 7
 have b0 := h.2.1
 have K0 := Aside0.mk ((h.set_ (d' := { d with passed := -1 }) 6 (.int .i64 (-1)) rfl rfl).set_ (d' := { d with passed := -1, laid := false }) 7 (.bool false) rfl rfl)
 have T0 := Aside0.mk (((Turn.refl base W (Foot g v)).set_ (i := 6) (.inl rfl) h.2.1 (.int .i64 (-1))).set_ (i := 7) (.inl rfl) h.2.1 (.bool false))
 by_cases hm : d.motor = false
 ·have e : Drv.clk d = ({ d with passed := -1, laid := false }, false) := by unfold Drv.clk; rw [if_pos (.inl hm)]
  rw [e]
  rw [hm] at c1
  clear h hm e H
  go_enter Tryd.func46, Tryd.ntmps46
  go_wp2
  go_ret
  exact ⟨rfl, K0.out, T0.out⟩
 have hm' : d.motor = true := by simpa using hm
 rw [hm'] at c1
 by_cases hs : d.side = []
 ·have e : Drv.clk d = ({ d with passed := -1, laid := false }, false) := by unfold Drv.clk; rw [if_pos (.inr hs)]
  have hh : hasB { d with passed := -1, laid := false } = false := by unfold hasB; simp [hs]
  have HH := Aside0.mk hh
  rw [e]
  clear h hm hm' e H hs hh
  go_enter Tryd.func46, Tryd.ntmps46
  go_wp2_with (go_at_call 33; refine (has_calls base g v _ _ K0.out).mono ?_; rintro e W' ⟨rfl, rfl⟩; rw [HH.out])
  go_ret
  exact ⟨rfl, K0.out, T0.out⟩
 obtain ⟨hb, hp⟩ := hasB_pos hs
 have HH := Aside0.mk (show hasB { d with passed := -1, laid := false } = true from hb)
 have hnot : ¬ (d.motor = false ∨ d.side = []) := by simp [hm', hs]
 obtain ⟨A, c, hv, hc, _⟩ := h.slice
 rw [hv] at c0
 by_cases h1 : d.left - 1 > 0
 ·have e : Drv.clk d = ({ d with passed := -1, laid := false, left := d.left - 1 }, false) := by unfold Drv.clk; rw [if_neg hnot, if_pos h1]
  have K1 := Aside0.mk (K0.out.set_ (d' := { d with passed := -1, laid := false, left := d.left - 1 }) 4 (.int .i64 (d.left - 1)) rfl rfl)
  have hd : decide (1 < d.left) = true := decide_eq_true (by omega)
  rw [e]
  clear h hm hm' hs hb hp hnot e hv hc hp0 hp1 h1
  go_enter Tryd.func46, Tryd.ntmps46
  go_wp2_with (go_at_call 33; refine (has_calls base g v _ _ K0.out).mono ?_; rintro e W' ⟨rfl, rfl⟩; rw [HH.out])
  go_ret
  exact ⟨rfl, K1.out, T0.out.set_ (.inl rfl) b0 _⟩
 have hd : decide (1 < d.left) = false := decide_eq_false (by omega)
 by_cases h2 : d.ready = false
 ·have e : Drv.clk d = ({ d with passed := -1, laid := false, left := 149, ready := true }, false) := by unfold Drv.clk; rw [if_neg hnot, if_neg h1, if_pos h2]
  have K1 := Aside0.mk (K0.out.set_ (d' := { d with passed := -1, laid := false, left := d.left - 1 }) 4 (.int .i64 (d.left - 1)) rfl rfl)
  have K2 := Aside0.mk ((K1.out.set_ (d' := { d with passed := -1, laid := false, left := 149 }) 4 (.int .i64 149) rfl rfl).set_ (d' := { d with passed := -1, laid := false, left := 149, ready := true }) 3 (.bool true) rfl rfl)
  rw [h2] at c3
  rw [e]
  clear h hm hm' hs hb hp hnot e hv hc hp0 hp1 h1 h2 K1
  go_enter Tryd.func46, Tryd.ntmps46
  go_wp2_with (go_at_call 33; refine (has_calls base g v _ _ K0.out).mono ?_; rintro e W' ⟨rfl, rfl⟩; rw [HH.out])
  go_ret
  exact ⟨rfl, K2.out, ((T0.out.set_ (.inl rfl) b0 _).set_ (.inl rfl) b0 _).set_ (.inl rfl) b0 _⟩
 have h2' : d.ready = true := by simpa using h2
 have K1 := Aside0.mk ((K0.out.set_ (d' := { d with passed := -1, laid := false, left := d.left - 1 }) 4 (.int .i64 (d.left - 1)) rfl rfl).set_ (d' := { d with passed := -1, laid := false, left := 149 }) 4 (.int .i64 149) rfl rfl)
 have K2 := Aside0.mk ((K1.out.set_ (d' := { d with passed := d.pos, laid := false, left := 149 }) 6 (.int .i64 d.pos) rfl rfl).set_ (d' := { d with passed := d.pos, laid := false, left := 149, pos := d.pos + 1 }) 5 (.int .i64 (d.pos + 1)) rfl rfl)
 rw [h2'] at c3
 have hn16 := h.2.2.2
 by_cases h3 : d.pos + 1 = d.side.length
 ·have e : Drv.clk d = ({ d with passed := d.pos, laid := false, ready := false, left := 4000, pos := 0 }, true) := by unfold Drv.clk; rw [if_neg hnot, if_neg h1, if_neg h2, if_pos h3]
  have ht : (d.pos + 1 == (d.side.length : Int)) = true := by simp [h3]
  rw [e]
  clear h hm hm' hs hb hp hnot e hv h1 h2 h2' h3 K1
  generalize d.side.length = n at *
  go_enter Tryd.func46, Tryd.ntmps46
  go_wp2_with (go_at_call 33; refine (has_calls base g v _ _ K0.out).mono ?_; rintro e W' ⟨rfl, rfl⟩; rw [HH.out])
  go_quiet (fail)
  go_wp2_with (go_at_call 61; refine (back_calls base g v _ _ (K2.out.drewN _)).mono ?_; rintro e W' ⟨rfl, hi, ht⟩)
  go_ret
  refine ⟨rfl, hi, Turn.trans ?_ ht⟩
  exact (((((T0.out.set_ (.inl rfl) b0 _).set_ (.inl rfl) b0 _).set_ (.inl rfl) b0 _).set_ (.inl rfl) b0 _)).drewN _
 ·have e : Drv.clk d = ({ d with passed := d.pos, laid := false, left := 149, pos := d.pos + 1 }, true) := by unfold Drv.clk; rw [if_neg hnot, if_neg h1, if_neg h2, if_neg h3]
  have ht : (d.pos + 1 == (d.side.length : Int)) = false := by simp [h3]
  rw [e]
  clear h hm hm' hs hb hp hnot e hv h1 h2 h2' h3 K1
  generalize d.side.length = n at *
  go_enter Tryd.func46, Tryd.ntmps46
  go_wp2_with (go_at_call 33; refine (has_calls base g v _ _ K0.out).mono ?_; rintro e W' ⟨rfl, rfl⟩; rw [HH.out])
  go_quiet (fail)
  go_wp2
  go_ret
  refine ⟨rfl, K2.out.drewN _, ?_⟩
  exact (((((T0.out.set_ (.inl rfl) b0 _).set_ (.inl rfl) b0 _).set_ (.inl rfl) b0 _).set_ (.inl rfl) b0 _)).drewN _
def bytes_Clone.f (l0 : List Int) : Option (List Int) := if l0.length ≤ 140737488355328 then some l0 else none
theorem bytes_Clone.calls (A0 : Option Addr) (c0 : Nat) (l0 : List Int) (r : List Int) (w : World) (hr0 : Kd.C (Kd.int .u8) w A0 l0.length l0) (hc0 : l0.length ≤ c0) (h : bytes_Clone.f l0 = some r) :
  Calls Tryd.prog 60 #[.slice A0 l0.length c0] w fun e w' => ∃ v0_ : Value, e = .returned (v0_) ∧ Kd.R (Kd.int .u8) 5 w' w.heap.size (fun _ => True) v0_ r ∧ Below w.heap.size w w' := by
 unfold bytes_Clone.f at h
 by_cases hl : l0.length ≤ 140737488355328
 ·rw [if_pos hl] at h
  obtain rfl := Option.some.inj h
  cases A0 with
  | none =>
   have h0 : l0 = [] := by
    rcases Nat.eq_zero_or_pos l0.length with hz | hp
    ·exact List.length_eq_zero_iff.1 hz
    ·obtain ⟨ad, he, _⟩ := Kd.at_int hr0 0 (by omega) (by omega)
     cases he
   subst h0
   refine (Tryd.bytes_Clone_nil _ c0 w).mono ?_
   rintro e w' ⟨rfl, rfl⟩
   exact ⟨_, rfl, Kd.R_nil _ _ _ _ _, Below.refl _ _⟩
  | some a =>
   refine (Tryd.bytes_Clone_at a l0.length c0 l0 w rfl hl ?_).mono ?_
   ·intro i hi
    obtain ⟨ad, he, hc⟩ := Kd.at_int hr0 (i : Int) (by omega) (by omega)
    cases he
    exact hc
   ·rintro e w' ⟨v', rfl, hown, _, hb⟩
    exact ⟨v', rfl, Kd.R_of_own (enc := Value.int .u8) hown (fun _ _ => trivial), hb⟩
 ·rw [if_neg hl] at h
  cases h

/-! ### what is asked of it -/
def readyB (d : Drv.D) : Bool := d.motor && hasB d && d.ready
theorem ready_calls (base : Nat) (g : Nat) (v : Value) (d : Drv.D) (W : World) (h : Is base W g v d) :
  Calls Tryd.prog 52 #[.pointer (some ⟨g, 0, none⟩)] W fun e W' => e = .returned (.bool (readyB d)) ∧ W = W' := by
 have H := Aside0.mk h
 have c1 := h.c1
 have c3 := h.c3
 unfold readyB
 cases hm : d.motor
 ·rw [hm] at c1
  clear h hm
  go_enter Tryd.func52, Tryd.ntmps52
  go_wp2
  go_ret
  exact ⟨rfl, rfl⟩
 ·rw [hm] at c1
  cases hh : hasB d
  ·have HH := Aside0.mk hh
   clear h hm hh
   go_enter Tryd.func52, Tryd.ntmps52
   go_wp2_with (go_at_call 33; refine (has_calls base g v _ _ H.out).mono ?_; rintro e W' ⟨rfl, rfl⟩; rw [HH.out])
   go_ret
   exact ⟨rfl, rfl⟩
  ·have HH := Aside0.mk hh
   clear h hm hh
   go_enter Tryd.func52, Tryd.ntmps52
   go_wp2_with (go_at_call 33; refine (has_calls base g v _ _ H.out).mono ?_; rintro e W' ⟨rfl, rfl⟩; rw [HH.out])
   go_ret
   exact ⟨by simp, rfl⟩
def atI (d : Drv.D) : Int := if readyB d = true then d.pos else 0
theorem at_calls (base : Nat) (g : Nat) (v : Value) (d : Drv.D) (W : World) (h : Is base W g v d) :
  Calls Tryd.prog 38 #[.pointer (some ⟨g, 0, none⟩)] W fun e W' => e = .returned (.int .i64 (atI d)) ∧ W = W' := by
 have H := Aside0.mk h
 have c5 := h.c5
 unfold atI
 cases hr : readyB d
 all_goals
  have HH := Aside0.mk hr
  clear h hr
  go_enter Tryd.func38, Tryd.ntmps38
  go_wp2_with (go_at_call 52; refine (ready_calls base g v _ _ H.out).mono ?_; rintro e W' ⟨rfl, rfl⟩; rw [HH.out])
  go_ret
  exact ⟨by simp, rfl⟩
def getI (d : Drv.D) : Int := if d.passed = -1 then 0 else rd d.side d.passed
theorem get_calls (base : Nat) (g : Nat) (v : Value) (d : Drv.D) (W : World) (h : Is base W g v d) (hp : d.passed = -1 ∨ 0 ≤ d.passed ∧ d.passed < d.side.length) :
  Calls Tryd.prog 48 #[.pointer (some ⟨g, 0, none⟩)] W fun e W' => e = .returned (.int .u8 (getI d)) ∧ ∃ n, W' = W.drewN n := by
 have c0 := h.c0
 have c6 := h.c6
 unfold getI
 by_cases hq : d.passed = -1
 ·rw [if_pos hq]
  rw [hq] at c6
  clear h hp hq
  go_enter Tryd.func48, Tryd.ntmps48
  go_wp2
  go_ret
  exact ⟨rfl, 0, rfl⟩
 ·rw [if_neg hq]
  obtain ⟨p0, p1⟩ := hp.resolve_left hq
  obtain ⟨A, c, rfl, hc, hC⟩ := h.slice
  obtain ⟨ad, e, hx⟩ := Kd.at_int hC d.passed p0 p1
  subst e
  have t1 : (d.passed == -1) = false := by simpa using hq
  have p2 : d.side.length ≤ 65536 := h.2.2.2
  clear h hp hq hC hc
  generalize d.side.length = n at *
  have q0 := eq_true p0
  have q1 := eq_true p1
  go_enter Tryd.func48, Tryd.ntmps48
  go_wp2
  go_quiet (fail)
  go_wp2
  go_ret
  exact ⟨rfl, _, rfl⟩
/-- nothing passed, or it is protected: nothing is laid -/
theorem lay_none (base : Nat) (g : Nat) (v : Value) (d : Drv.D) (b : Int) (W : World) (h : Is base W g v d) (hp : d.passed = -1 ∨ d.guarded = true) :
  Calls Tryd.prog 49 #[.pointer (some ⟨g, 0, none⟩), .int .u8 b] W fun e W' => e = .returned (.bool false) ∧ W = W' := by
 have c2 := h.c2
 have c6 := h.c6
 by_cases hq : d.passed = -1
 ·rw [hq] at c6
  clear h hp hq
  go_enter Tryd.func49, Tryd.ntmps49
  go_wp2
  go_ret
  exact ⟨rfl, rfl⟩
 ·rw [hp.resolve_left hq] at c2
  have t1 : (d.passed == -1) = false := by simpa using hq
  clear h hp hq
  go_enter Tryd.func49, Tryd.ntmps49
  go_wp2
  go_ret
  exact ⟨rfl, rfl⟩
theorem side_calls (base : Nat) (g : Nat) (v : Value) (d : Drv.D) (W : World) (h : Is base W g v d) :
  Calls Tryd.prog 34 #[.pointer (some ⟨g, 0, none⟩)] W fun e W' => ∃ v1 : Value, e = .returned v1 ∧ Kd.R (Kd.int .u8) 5 W' W.heap.size (fun _ => True) v1 d.side ∧ Below W.heap.size W W' := by
 have c0 := h.c0
 obtain ⟨A, c, rfl, hc, hC⟩ := h.slice
 have HC := Aside0.mk hC
 have HL := Aside0.mk hc
 have hx : bytes_Clone.f d.side = some d.side := by unfold bytes_Clone.f; rw [if_pos (by have := h.2.2.2; omega)]
 have HX := Aside0.mk hx
 clear h hc hC hx
 go_enter Tryd.func34, Tryd.ntmps34
 go_wp2_with (go_at_call 60; refine (bytes_Clone.calls A c d.side d.side _ HC.out HL.out HX.out).mono ?_; rintro e W' ⟨v1, rfl, ho, hb⟩; have HO := Aside0.mk ho; have HB := Aside0.mk hb; clear ho hb)
 go_ret
 exact ⟨_, rfl, HO.out, HB.out⟩
theorem store0 {base : Nat} {W : World} {g : Nat} {v v1 : Value} {d d' : Drv.D} (h : At W g 98 (cells v d)) (hb : base ≤ g) (hr : Kd.R (Kd.int .u8) 5 W base (fun _ => True) v1 d'.side) (hl : d'.side.length ≤ 65536) (hc : cells v1 d = cells v1 d') :
  Is base (W.setCell ⟨g, 0, none⟩ v1) g v1 d' :=
 ⟨by have := h.set_ 0 v1; rw [show (cells v d).setIfInBounds 0 v1 = cells v1 d' from hc] at this; exact this, hb, Kd.R_set hr h (by decide) 0 v1, hl⟩
theorem insert_no (base : Nat) (g : Nat) (v : Value) (d : Drv.D) (A : Option Addr) (n c : Nat) (W : World) (h : Is base W g v d) (hno : d.side ≠ [] ∨ n = 0 ∨ 65536 < n) :
  Calls Tryd.prog 21 #[.pointer (some ⟨g, 0, none⟩), .slice A n c] W fun e W' => e = .returned (.bool false) ∧ W = W' := by
 have H := Aside0.mk h
 by_cases hs : d.side = []
 ·have HH := Aside0.mk (show hasB d = false by unfold hasB; rw [hs]; rfl)
  by_cases h0 : n = 0
  ·subst h0
   clear h hno hs
   go_enter Tryd.func21, Tryd.ntmps21
   go_wp2_with (go_at_call 33; refine (has_calls base g v _ _ H.out).mono ?_; rintro e W' ⟨rfl, rfl⟩; rw [HH.out])
   go_ret
   exact ⟨rfl, rfl⟩
  ·have hn : 65536 < n := by rcases hno with x | x | x; exact absurd hs x; exact absurd x h0; exact x
   have t1 : ((n : Int) == 0) = false := by simp [h0]
   have t2 : decide (65536 < n) = true := decide_eq_true hn
   have t3 : decide ((65536 : Int) < (n : Int)) = true := decide_eq_true (by omega)
   clear h hno hs h0 hn
   go_enter Tryd.func21, Tryd.ntmps21
   go_wp2_with (go_at_call 33; refine (has_calls base g v _ _ H.out).mono ?_; rintro e W' ⟨rfl, rfl⟩; rw [HH.out])
   go_ret
   exact ⟨rfl, rfl⟩
 ·have HH := Aside0.mk (hasB_pos hs).1
  clear h hno hs
  go_enter Tryd.func21, Tryd.ntmps21
  go_wp2_with (go_at_call 33; refine (has_calls base g v _ _ H.out).mono ?_; rintro e W' ⟨rfl, rfl⟩; rw [HH.out])
  go_ret
  exact ⟨rfl, rfl⟩
theorem insert_yes (base : Nat) (g : Nat) (v : Value) (d : Drv.D) (A : Option Addr) (c : Nat) (p : List Int) (W : World) (h : Is base W g v d) (hs : d.side = []) (hp0 : 0 < p.length) (hp1 : p.length ≤ 65536) (hc : p.length ≤ c)
  (hC : (Kd.int .u8).C W A p.length p) (hbase : base ≤ W.heap.size) :
  Calls Tryd.prog 21 #[.pointer (some ⟨g, 0, none⟩), .slice A p.length c] W fun e W' => e = .returned (.bool true) ∧ ∃ v1 : Value, Is base W' g v1 (back { d with side := p }) ∧ (∀ k, v1.ownBlock = some k → W.heap.size ≤ k) ∧ Turn base W W' (fun i => i = g) := by
 have H := Aside0.mk h
 have HH := Aside0.mk (show hasB d = false by unfold hasB; rw [hs]; rfl)
 have HC := Aside0.mk hC
 have HL := Aside0.mk hc
 have HX := Aside0.mk (show bytes_Clone.f p = some p by unfold bytes_Clone.f; rw [if_pos (by omega)])
 have HP := Aside0.mk hp1
 have t1 : ((p.length : Int) == 0) = false := by simp; intro e; rw [e] at hp0; simp at hp0
 have t2 : decide (65536 < p.length) = false := decide_eq_false (by omega)
 have t3 : decide ((65536 : Int) < (p.length : Int)) = false := decide_eq_false (by omega)
 have HBA := Aside0.mk hbase
 clear h hs hp0 hp1 hc hC hbase
 go_enter Tryd.func21, Tryd.ntmps21
 go_wp2_with (go_at_call 33; refine (has_calls base g v _ _ H.out).mono ?_; rintro e W' ⟨rfl, rfl⟩; rw [HH.out])
 refine (bytes_Clone.calls A c p p _ HC.out HL.out HX.out).mono ?_
 rintro e w1 ⟨v1, rfl, ho, hb⟩
 have HO := Aside0.mk ho
 have HB := Aside0.mk hb
 have HA := Aside0.mk (H.out.1.below hb)
 have k0 : w1.cell? ⟨g, 0, none⟩ = some v := HA.out.cell 0
 have k1 := HA.out.frozen 0
 have HI := Aside0.mk (store0 HA.out H.out.2.1 (d' := { d with side := p }) (Kd.R_lower HO.out HBA.out) HP.out rfl)
 obtain ⟨A1, c1, ev⟩ := Kd.R_slice HO.out
 subst ev
 clear ho hb
 go_wp2_with (go_at_call 61; refine (back_calls base g _ _ _ HI.out).mono ?_; rintro e W' ⟨rfl, hi, ht⟩)
 go_ret
 have hT : Turn base W (w1.setCell ⟨g, 0, none⟩ (.slice A1 p.length c1)) (fun i => i = g) := Turn.set_ (S := fun i => i = g) (Turn.of_below HB.out HBA.out) rfl H.out.2.1 _
 refine ⟨rfl, _, hi, fun k hk => Kd.R_base HO.out k hk, ?_⟩
 refine ⟨hT.below.trans ht.below, fun i hi hn => ?_⟩
 have hlt : i < (w1.setCell ⟨g, 0, none⟩ (.slice A1 p.length c1)).heap.size := Nat.lt_of_lt_of_le hi hT.below.size
 rw [ht.kept i hlt (fun hf => by
  rcases hf with hf | hf
  ·exact hn hf
  ·exact absurd (Kd.R_base HO.out i hf) (by omega)), hT.kept i hi hn]
theorem eject_calls (base : Nat) (g : Nat) (v : Value) (d : Drv.D) (W : World) (h : Is base W g v d) :
  Calls Tryd.prog 24 #[.pointer (some ⟨g, 0, none⟩)] W fun e W' => e = .returned v ∧ Is base W' g (.slice none 0 0) (back { d with side := [], passed := -1 }) ∧ Kd.R (Kd.int .u8) 5 W' base (fun _ => True) v d.side ∧ Turn base W W' (fun i => i = g) := by
 have H := Aside0.mk h
 have k0 := h.c0
 have k6 := h.c6
 have f0 := h.1.frozen 0
 have f6 := h.1.frozen 6
 have HI := Aside0.mk ((store0 h.1 h.2.1 (d' := { d with side := [] }) (v1 := .slice none 0 0) (Kd.R_nil _ _ _ _ _) (by simp) rfl).set_ (d' := { d with side := [], passed := -1 }) 6 (.int .i64 (-1)) rfl rfl)
 have HR := Aside0.mk (Kd.R_set (Kd.R_set h.2.2.1 h.1 (by decide) 0 (.slice none 0 0)) (h.1.set_ 0 (.slice none 0 0)) (by decide) 6 (.int .i64 (-1)))
 obtain ⟨A, c, hv, _⟩ := h.slice
 subst hv
 clear h
 go_enter Tryd.func24, Tryd.ntmps24
 go_wp2_with (go_at_call 61; refine (back_calls base g _ _ _ HI.out).mono ?_; rintro e W' ⟨rfl, hi, ht⟩)
 go_ret
 have hT : Turn base W ((W.setCell ⟨g, 0, none⟩ (.slice none 0 0)).setCell ⟨g, 6, none⟩ (.int .i64 (-1))) (fun i => i = g) := Turn.set_ (S := fun i => i = g) (Turn.set_ (S := fun i => i = g) (Turn.refl base W (fun i => i = g)) rfl H.out.2.1 _) rfl H.out.2.1 _
 have ht' : Turn base ((W.setCell ⟨g, 0, none⟩ (.slice none 0 0)).setCell ⟨g, 6, none⟩ (.int .i64 (-1))) W' (fun i => i = g) := ht.mono (fun i hf => by
  rcases hf with hf | hf
  ·exact hf
  ·simp [Value.ownBlock] at hf)
 refine ⟨rfl, hi, ?_, hT.trans ht'⟩
 exact Kd.R_mono (Kd.R_step (Kd.R_types HR.out HI.out.1 (by decide)) (fun k hk hlt => ht'.kept k hlt hk.2)) (fun _ _ => trivial)
end Go.Proofs.YtaiaapjlpbhlbaaDoor.Drive
