/-
 THE WAVE's METHODS, each by its contract. By the prover of this repo.
-/
import Derived.Test.YtaiaapjlpbhlbaaDoorProg
import Derived.Test.YtaiaapjlpbhlbaaDoorZWMore
import Derived.Test.YtaiaapjlpbhlbaaDoorZWNEv
import Derived.Deep.Draws
import Derived.Deep.QuietTactic
import Derived.BigQuiet
import Derived.WalkKit
import Derived.KernelRfl
import Derived.Outline
import Derived.RegionTactic
import Derived.ChangeAlike
import Derived.StillTailTactics
namespace Go.Proofs.YtaiaapjlpbhlbaaDoor.Wave
open Go.RowKit Go.Proofs.YtaiaapjlpbhlbaaDoorW.PrintWords Go.Proofs.YtaiaapjlpbhlbaaDoorW.PrintLast Go.Proofs.YtaiaapjlpbhlbaaDoorW.PrintMore
set_option linter.unusedVariables false
set_option linter.unusedSimpArgs false
/-! ### a struct's block -/
def At (W : World) (g : Nat) (t : TypeId) (cs : Array Value) : Prop := W.heap[g]? = some (.cells cs t (0, 0))
section
variable {W W1 : World} {g : Nat} {t : TypeId} {cs : Array Value}
theorem At.cell (h : At W g t cs) (i : Nat) : W.cell? ⟨g, i, none⟩ = cs[i]? := by
 unfold At at h
 simp [World.cell?, h]
theorem At.frozen (h : At W g t cs) (i : Nat) : W.frozen? ⟨g, i, none⟩ = false := by
 unfold At at h
 simp [World.frozen?, h]
theorem At.set_ (h : At W g t cs) (i : Nat) (u : Value) : At (W.setCell ⟨g, i, none⟩ u) g t (cs.setIfInBounds i u) := by
 unfold At at h ⊢
 simp [World.setCell, Array.getElem?_modify, h]
theorem At.lt (h : At W g t cs) : g < W.heap.size := by
 rcases Nat.lt_or_ge g W.heap.size with hlt | hge
 ·exact hlt
 ·unfold At at h; rw [Array.getElem?_eq_none hge] at h; cases h
theorem At.below (h : At W g t cs) (hb : Below W.heap.size W W1) : At W1 g t cs := (hb.block g h.lt).trans h
theorem At.far (h : At W g t cs) {p : Addr} (hp : g ≠ p.block) (u : Value) : At (W.setCell p u) g t cs := (Below.heap_setCell W p u g hp).trans h
theorem At.drewN (h : At W g t cs) (n : Nat) : At (W.drewN n) g t cs := h
theorem At.drew (h : At W g t cs) : At W.drew g t cs := h
end

/-- what a call may have turned: the struct's block g and the side's; nothing below 'base' -/
structure Turn (base : Nat) (W W' : World) (S : Nat → Prop) : Prop where
 below : Below base W W'
 kept : ∀ i, i < W.heap.size → ¬ S i → W'.heap[i]? = W.heap[i]?
theorem Turn.refl (base : Nat) (W : World) (S : Nat → Prop) : Turn base W W S := ⟨Below.refl _ _, fun _ _ _ => rfl⟩
theorem Turn.trans {base : Nat} {A B C : World} {S : Nat → Prop} (h : Turn base A B S) (k : Turn base B C S) : Turn base A C S :=
 ⟨h.below.trans k.below, fun i hi hS => (k.kept i (Nat.lt_of_lt_of_le hi h.below.size) hS).trans (h.kept i hi hS)⟩
theorem Turn.mono {base : Nat} {A B : World} {S S' : Nat → Prop} (h : Turn base A B S) (hS : ∀ i, S i → S' i) : Turn base A B S' := ⟨h.below, fun i hi hn => h.kept i hi fun hs => hn (hS i hs)⟩
theorem Turn.set_ {base : Nat} {A B : World} {S : Nat → Prop} (h : Turn base A B S) {g i : Nat} (hg : S g) (hb : base ≤ g) (u : Value) : Turn base A (B.setCell ⟨g, i, none⟩ u) S :=
 ⟨h.below.setCell (p := ⟨g, i, none⟩) hb u, fun j hj hS => by
  rw [Below.heap_setCell B ⟨g, i, none⟩ u j (fun e => hS (by rw [e]; exact hg))]
  exact h.kept j hj hS⟩
theorem Turn.drewN {base : Nat} {A B : World} {S : Nat → Prop} (h : Turn base A B S) (n : Nat) : Turn base A (B.drewN n) S := ⟨⟨h.below.os, h.below.tape, h.below.output, h.below.size, h.below.block⟩, h.kept⟩
theorem Turn.drew {base : Nat} {A B : World} {S : Nat → Prop} (h : Turn base A B S) : Turn base A B.drew S := ⟨h.below.drew, h.kept⟩
theorem Turn.of_below {base : Nat} {A B : World} {S : Nat → Prop} (h : Below A.heap.size A B) (hb : base ≤ A.heap.size) : Turn base A B S := ⟨h.mono hb, fun i hi _ => h.block i hi⟩


/-! ### the wave -/
def zs (n : Nat) : List Int := List.replicate n 0
def u8s (l : List Int) : List Value := l.map (.int .u8)
structure V where
 table : List Int
 turns : List Int
 reg : List Int
 vreg : Int
 vgain : Int
 vn : Int
 mreg : Int
 mgain : Int
 mn : Int
 counter : Int
 wrest : Int
 wat : Int
 brest : Int
 bat : Int
 cycle : Int
 held : Int
def V.tail (v : V) : List Value := [.int .u8 v.vreg, .int .u8 v.vgain, .int .i64 v.vn, .int .u8 v.mreg, .int .u8 v.mgain, .int .i64 v.mn, .int .i64 v.counter, .int .i64 v.wrest, .int .i64 v.wat, .int .i64 v.brest, .int .i64 v.bat, .int .i64 v.cycle, .int .i64 v.held]
def V.cells (v : V) : List Value := u8s v.table ++ u8s v.turns ++ u8s v.reg ++ v.tail
def v0 : V := ⟨zs 64, zs 64, zs 11, 0, 0, 0, 0, 0, 0, 0, 0, 0, 0, 0, 0, 0⟩
theorem zero_run (W : World) : Sem.run Tryd.prog (zeroValue 116) W = .ok (.agg v0.cells.toArray) W := by
 have h : (Tryd.prog.info? 116).map (fun i => i.zero) = some (some (.agg v0.cells.toArray)) := by kernel_rfl
 obtain ⟨i, hi, hz⟩ := Option.map_eq_some_iff.1 h
 simp [zeroValue, typeInfo, hi, hz]
theorem u8s_len (l : List Int) : (u8s l).length = l.length := by simp [u8s]
theorem u8s_at (l : List Int) (i : Nat) (h : i < l.length) : (u8s l)[i]? = some (.int .u8 (rd l (i : Int))) := by
 simp [u8s, rd, List.getElem?_map, List.getElem?_eq_getElem h, List.getD_eq_getElem?_getD]
theorem u8s_set (l : List Int) (i : Nat) (b : Int) : (u8s l).set i (.int .u8 b) = u8s (l.set i b) := by simp [u8s, List.map_set]
/-- at block g stands the wave v -/
structure Is (base : Nat) (W : World) (g : Nat) (v : V) : Prop where
 at_ : At W g 116 v.cells.toArray
 base : base ≤ g
 lt : v.table.length = 64
 ln : v.turns.length = 64
 lr : v.reg.length = 11
section
variable {base : Nat} {W W1 : World} {g : Nat} {v : V}
theorem Is.table_ (h : Is base W g v) (i : Int) (h0 : 0 ≤ i) (h1 : i < 64) : W.cell? ⟨g, i.toNat, none⟩ = some (.int .u8 (rd v.table i)) := by
 have hl := h.lt
 rw [h.at_.cell, List.getElem?_toArray]
 unfold V.cells
 rw [List.append_assoc, List.append_assoc, List.getElem?_append_left (by rw [u8s_len]; omega), u8s_at _ _ (by omega), Int.toNat_of_nonneg h0]
theorem Is.turns_ (h : Is base W g v) (i : Int) (h0 : 0 ≤ i) (h1 : i < 64) : W.cell? ⟨g, 64 + i.toNat, none⟩ = some (.int .u8 (rd v.turns i)) := by
 have hl := h.lt
 have hn := h.ln
 rw [h.at_.cell, List.getElem?_toArray]
 unfold V.cells
 rw [List.append_assoc, List.append_assoc, List.getElem?_append_right (by rw [u8s_len]; omega), u8s_len, hl, List.getElem?_append_left (by rw [u8s_len]; omega), show 64 + i.toNat - 64 = i.toNat by omega, u8s_at _ _ (by omega), Int.toNat_of_nonneg h0]
theorem Is.reg_ (h : Is base W g v) (i : Nat) (h1 : i < 11) : W.cell? ⟨g, 128 + i, none⟩ = some (.int .u8 (rd v.reg (i : Int))) := by
 have hl := h.lt
 have hn := h.ln
 have hr := h.lr
 rw [h.at_.cell, List.getElem?_toArray]
 unfold V.cells
 rw [List.append_assoc, List.append_assoc, List.getElem?_append_right (by rw [u8s_len]; omega), u8s_len, hl, List.getElem?_append_right (by rw [u8s_len]; omega), u8s_len, hn, List.getElem?_append_left (by rw [u8s_len]; omega), show 128 + i - 64 - 64 = i by omega, u8s_at _ _ (by omega)]
theorem Is.tail_ (h : Is base W g v) (i : Nat) : W.cell? ⟨g, 139 + i, none⟩ = v.tail[i]? := by
 have hl := h.lt
 have hn := h.ln
 have hr := h.lr
 rw [h.at_.cell, List.getElem?_toArray]
 unfold V.cells
 rw [List.getElem?_append_right (by simp only [List.length_append, u8s_len]; omega)]
 simp only [List.length_append, u8s_len, hl, hn, hr]
 rw [show 139 + i - (64 + 64 + 11) = i by omega]
theorem Is.frozen (h : Is base W g v) (i : Nat) : W.frozen? ⟨g, i, none⟩ = false := h.at_.frozen i
theorem Is.set_table (h : Is base W g v) (i : Nat) (b : Int) (hi : i < 64) : Is base (W.setCell ⟨g, i, none⟩ (.int .u8 b)) g { v with table := v.table.set i b } := by
 refine ⟨?_, h.base, by simp [h.lt], h.ln, h.lr⟩
 have := h.at_.set_ i (.int .u8 b)
 rw [List.setIfInBounds_toArray] at this
 unfold V.cells at this
 rw [List.append_assoc, List.append_assoc, List.set_append_left _ _ (by rw [u8s_len, h.lt]; exact hi), u8s_set] at this
 unfold V.cells
 rw [List.append_assoc, List.append_assoc]
 exact this
theorem Is.set_turns (h : Is base W g v) (i : Nat) (b : Int) (hi : i < 64) : Is base (W.setCell ⟨g, 64 + i, none⟩ (.int .u8 b)) g { v with turns := v.turns.set i b } := by
 have hl := h.lt
 have hn := h.ln
 refine ⟨?_, h.base, h.lt, by simp [h.ln], h.lr⟩
 have := h.at_.set_ (64 + i) (.int .u8 b)
 rw [List.setIfInBounds_toArray] at this
 unfold V.cells at this
 rw [List.append_assoc, List.append_assoc, List.set_append_right _ _ (by rw [u8s_len]; omega), u8s_len, hl, show 64 + i - 64 = i by omega, List.set_append_left _ _ (by rw [u8s_len]; omega), u8s_set] at this
 unfold V.cells
 rw [List.append_assoc, List.append_assoc]
 exact this
theorem Is.set_reg (h : Is base W g v) (i : Nat) (b : Int) (hi : i < 11) : Is base (W.setCell ⟨g, 128 + i, none⟩ (.int .u8 b)) g { v with reg := v.reg.set i b } := by
 have hl := h.lt
 have hn := h.ln
 have hr := h.lr
 refine ⟨?_, h.base, h.lt, h.ln, by simp [h.lr]⟩
 have := h.at_.set_ (128 + i) (.int .u8 b)
 rw [List.setIfInBounds_toArray] at this
 unfold V.cells at this
 rw [List.append_assoc, List.append_assoc, List.set_append_right _ _ (by rw [u8s_len]; omega), u8s_len, hl, List.set_append_right _ _ (by rw [u8s_len]; omega), u8s_len, hn, show 128 + i - 64 - 64 = i by omega, List.set_append_left _ _ (by rw [u8s_len]; omega), u8s_set] at this
 unfold V.cells
 rw [List.append_assoc, List.append_assoc]
 exact this
theorem Is.set_tail (h : Is base W g v) (i : Nat) (u : Value) {v' : V} (ht : v'.table = v.table) (hn' : v'.turns = v.turns) (hr' : v'.reg = v.reg) (hc : v.tail.set i u = v'.tail) : Is base (W.setCell ⟨g, 139 + i, none⟩ u) g v' := by
 have hl := h.lt
 have hn := h.ln
 have hr := h.lr
 refine ⟨?_, h.base, by rw [ht]; exact hl, by rw [hn']; exact hn, by rw [hr']; exact hr⟩
 have := h.at_.set_ (139 + i) u
 rw [List.setIfInBounds_toArray] at this
 unfold V.cells at this
 rw [List.set_append_right _ _ (by simp only [List.length_append, u8s_len]; omega)] at this
 simp only [List.length_append, u8s_len, hl, hn, hr] at this
 rw [show 139 + i - (64 + 64 + 11) = i by omega, hc] at this
 unfold V.cells
 rw [ht, hn', hr']
 exact this
theorem Is.below (h : Is base W g v) (hb : Below W.heap.size W W1) : Is base W1 g v := ⟨h.at_.below hb, h.base, h.lt, h.ln, h.lr⟩
theorem Is.drewN (h : Is base W g v) (n : Nat) : Is base (W.drewN n) g v := ⟨h.at_.drewN n, h.base, h.lt, h.ln, h.lr⟩
theorem Is.drew (h : Is base W g v) : Is base W.drew g v := ⟨h.at_.drew, h.base, h.lt, h.ln, h.lr⟩
end
theorem new_calls (base : Nat) (W : World) (hb : base ≤ W.heap.size) : Calls Tryd.prog 40 #[] W fun e W' => ∃ g, e = .returned (.pointer (some ⟨g, 0, none⟩)) ∧ Is base W' g v0 ∧ Below W.heap.size W W' ∧ W.heap.size ≤ g := by
 have z := zero_run W
 go_enter Tryd.func40, Tryd.ntmps40
 go_wp2
 generalize hz : v0.cells.toArray = cs
 go_ret
 refine ⟨W.heap.size, rfl, ⟨?_, hb, by decide, by decide, by decide⟩, below_alloc (Below.refl _ _) _, Nat.le_refl _⟩
 unfold At
 rw [hz]
 exact heap_alloc_new W _
/-! ### bits of a byte -/
theorem fin_u8 (P : Int → Prop) (h : ∀ n : Fin 256, P ((n.val : Nat) : Int)) (x : Int) (h0 : 0 ≤ x) (h1 : x < 256) : P x := by
 have := h ⟨x.toNat, by omega⟩
 rwa [show ((x.toNat : Nat) : Int) = x from Int.toNat_of_nonneg h0] at this
theorem and128 (x : Int) (h0 : 0 ≤ x) (h1 : x < 256) : Go.bits .and .u8 x 128 = if 128 ≤ x then 128 else 0 := fin_u8 (fun x => Go.bits .and .u8 x 128 = if 128 ≤ x then 128 else 0) (by decide +kernel) x h0 h1
theorem and63 (x : Int) (h0 : 0 ≤ x) (h1 : x < 256) : Go.bits .and .u8 x 63 = x % 64 := fin_u8 (fun x => Go.bits .and .u8 x 63 = x % 64) (by decide +kernel) x h0 h1
theorem and3 (x : Int) (h0 : 0 ≤ x) (h1 : x < 256) : Go.bits .and .u8 x 3 = x % 4 := fin_u8 (fun x => Go.bits .and .u8 x 3 = x % 4) (by decide +kernel) x h0 h1
theorem and7 (x : Int) (h0 : 0 ≤ x) (h1 : x < 256) : Go.bits .and .u8 x 7 = x % 8 := fin_u8 (fun x => Go.bits .and .u8 x 7 = x % 8) (by decide +kernel) x h0 h1
theorem and15 (x : Int) (h0 : 0 ≤ x) (h1 : x < 256) : Go.bits .and .u8 x 15 = x % 16 := fin_u8 (fun x => Go.bits .and .u8 x 15 = x % 16) (by decide +kernel) x h0 h1
theorem and127 (x : Int) (h0 : 0 ≤ x) (h1 : x < 256) : Go.bits .and .u8 x 127 = x % 128 := fin_u8 (fun x => Go.bits .and .u8 x 127 = x % 128) (by decide +kernel) x h0 h1
theorem and64 (x : Int) (h0 : 0 ≤ x) (h1 : x < 256) : Go.bits .and .u8 x 64 = if 64 ≤ x % 128 then 64 else 0 := fin_u8 (fun x => Go.bits .and .u8 x 64 = if 64 ≤ x % 128 then 64 else 0) (by decide +kernel) x h0 h1
theorem and192 (x : Int) (h0 : 0 ≤ x) (h1 : x < 256) : Go.bits .and .u8 x 192 = x / 64 * 64 := fin_u8 (fun x => Go.bits .and .u8 x 192 = x / 64 * 64) (by decide +kernel) x h0 h1
theorem or64 (x : Int) (h0 : 0 ≤ x) (h1 : x < 64) : Go.bits .or .u8 x 64 = x + 64 := by
 have := fin_u8 (fun x => x < 64 → Go.bits .or .u8 x 64 = x + 64) (by decide +kernel) x h0 (by omega)
 exact this h1
/-! ### what is told of it -/
/-- the package's table of volumes, as it is laid -/
def ML : List Int := [30, 20, 15, 12]
def MS (W : World) : Prop := ∀ i : Int, 0 ≤ i → i < 4 → W.cell? ⟨0, i.toNat, none⟩ = some (.int .i64 (rd ML i))
theorem MS.below {W W1 : World} {b : Nat} (h : MS W) (hb : Below b W W1) (hg : 0 < b) : MS W1 := fun i h0 h1 => (hb.cell (p := ⟨_, i.toNat, none⟩) hg).trans (h i h0 h1)
theorem loud_eq (y g m : Int) (y0 : 0 ≤ y) (y1 : y < 64) (g0 : 0 ≤ g) (m0 : 0 ≤ m) (m1 : m < 4) : wrap64 (wrap64 (y * if 32 < g then 32 else g) * rd ML m) = y * min g 32 * rd ML m := by
 have e : (if 32 < g then 32 else g) = min g 32 := by split <;> omega
 rw [e]
 have g2 : 0 ≤ min g 32 ∧ min g 32 ≤ 32 := by omega
 generalize min g 32 = k at *
 have p0 : 0 ≤ y * k := Int.mul_nonneg y0 g2.1
 have p1 : y * k ≤ 63 * 32 := Int.mul_le_mul (by omega) g2.2 g2.1 (by decide)
 generalize y * k = u at *
 have hr : rd ML m = 30 ∨ rd ML m = 20 ∨ rd ML m = 15 ∨ rd ML m = 12 := by
  rcases (show m = 0 ∨ m = 1 ∨ m = 2 ∨ m = 3 by omega) with rfl | rfl | rfl | rfl
  ·exact .inl rfl
  ·exact .inr (.inl rfl)
  ·exact .inr (.inr (.inl rfl))
  ·exact .inr (.inr (.inr rfl))
 rw [show wrap64 u = u by unfold wrap64; omega]
 rcases hr with h | h | h | h <;> rw [h] <;> unfold wrap64 <;> omega
def U8 (x : Int) : Prop := 0 ≤ x ∧ x < 256
structure Wf (v : V) : Prop where
 table : ∀ i, 0 ≤ rd v.table i ∧ rd v.table i < 64
 turns : ∀ i, 0 ≤ rd v.turns i ∧ rd v.turns i < 8
 reg : ∀ i, U8 (rd v.reg i)
 vgain : 0 ≤ v.vgain ∧ v.vgain < 64
 mgain : 0 ≤ v.mgain ∧ v.mgain < 64
 vreg : U8 v.vreg
 mreg : U8 v.mreg
 wat : 0 ≤ v.wat ∧ v.wat < 64
 bat : 0 ≤ v.bat ∧ v.bat < 64
 held : 0 ≤ v.held ∧ v.held ≤ 60480
def on (v : V) : Prop := 128 ≤ rd v.reg 9
instance (v : V) : Decidable (on v) := by unfold on; exact inferInstance
def outV (v : V) : Int := if on v then v.held else rd v.table v.wat * min v.vgain 32 * rd ML (rd v.reg 9 % 4)
set_option maxHeartbeats 1000000 in
theorem out_calls (base : Nat) (g : Nat) (v : V) (W : World) (h : Is base W g v) (hw : Wf v) (hm : MS W) :
  Calls Tryd.prog 68 #[.pointer (some ⟨g, 0, none⟩)] W fun e W' => e = .returned (.int .i64 (outV v)) ∧ ∃ n, W' = W.drewN n := by
 have c9 := h.reg_ 9 (by decide)
 have r9 := hw.reg 9
 have ch := h.tail_ 12
 have a128 := and128 _ r9.1 r9.2
 have a3 := and3 _ r9.1 r9.2
 unfold outV
 by_cases ho : on v
 ·rw [if_pos ho]
  unfold on at ho
  rw [if_pos ho] at a128
  simp only [Nat.reduceAdd] at c9 ch
  clear h hw hm ho a3 r9
  have ch' : W.cell? ⟨g, 151, none⟩ = some (.int .i64 v.held) := ch
  clear ch
  generalize rd v.reg ((9 : Nat) : Int) = x at *
  go_enter Tryd.func68, Tryd.ntmps68
  go_wp2
  go_ret
  exact ⟨rfl, 0, rfl⟩
 ·rw [if_neg ho]
  unfold on at ho
  rw [if_neg ho] at a128
  simp only [Nat.reduceAdd] at c9
  have cv : W.cell? ⟨g, 140, none⟩ = some (.int .u8 v.vgain) := h.tail_ 1
  have cw : W.cell? ⟨g, 147, none⟩ = some (.int .i64 v.wat) := h.tail_ 8
  have ct := h.table_ v.wat hw.wat.1 hw.wat.2
  have cm := hm (rd v.reg ((9 : Nat) : Int) % 4) (by omega) (by omega)
  have q0 := eq_true hw.wat.1
  have q1 := eq_true hw.wat.2
  have tb := hw.table v.wat
  have vb := hw.vgain
  have m0 : 0 ≤ rd v.reg ((9 : Nat) : Int) % 4 := by omega
  have m1 : rd v.reg ((9 : Nat) : Int) % 4 < 4 := by omega
  clear ch h hw hm ho r9
  rw [show ((9 : Nat) : Int) = 9 from rfl] at *
  generalize rd v.reg 9 = x at *
  generalize rd v.table v.wat = y at *
  have LE := Aside0.mk (loud_eq y v.vgain (x % 4) tb.1 tb.2 vb.1 m0 m1)
  by_cases hv : 32 < v.vgain
  ·rw [if_pos hv] at LE
   rw [show wrap64 (y * 32) = y * 32 by unfold wrap64; omega] at LE
   go_enter Tryd.func68, Tryd.ntmps68
   go_wp2
   go_quiet (fail)
   go_wp2
   go_ret
   exact ⟨congrArg (fun n => Ending.returned (.int .i64 n)) LE.out, _, rfl⟩
  ·rw [if_neg hv] at LE
   go_enter Tryd.func68, Tryd.ntmps68
   go_wp2
   go_quiet (fail)
   go_wp2
   go_ret
   exact ⟨congrArg (fun n => Ending.returned (.int .i64 n)) LE.out, _, rfl⟩
/-! ### a slope's register -/
def One (g : Nat) (i : Nat) : Prop := i = g
theorem put_calls (base : Nat) (g : Nat) (v : V) (W : World) (b : Int) (hb : U8 b) (h : Is base W g v) (k : Nat) (hk : k = 0 ∨ k = 3) :
  Calls Tryd.prog 76 #[.pointer (some ⟨g, 139 + k, none⟩), .int .u8 b] W fun e W' => e = .returned (.tuple #[]) ∧
   Is base W' g (if k = 0 then { v with vreg := b, vn := 0, vgain := if 128 ≤ b then b % 64 else v.vgain } else { v with mreg := b, mn := 0, mgain := if 128 ≤ b then b % 64 else v.mgain }) ∧ Turn base W W' (One g) := by
 have a128 := and128 b hb.1 hb.2
 have a63 := and63 b hb.1 hb.2
 have HB := h.base
 have H := Aside0.mk h
 rcases hk with rfl | rfl
 all_goals
  have f1 := h.frozen 139
  have f2 := h.frozen 140
  have f3 := h.frozen 141
  have f4 := h.frozen 142
  have f5 := h.frozen 143
  have f6 := h.frozen 144
  have c1 := h.tail_ 0
  have c2 := h.tail_ 1
  have c3 := h.tail_ 2
  have c4 := h.tail_ 3
  have c5 := h.tail_ 4
  have c6 := h.tail_ 5
  simp only [Nat.reduceAdd, V.tail, List.getElem?_cons_zero, List.getElem?_cons_succ] at c1 c2 c3 c4 c5 c6
  clear h
  by_cases hb1 : 128 ≤ b
  all_goals
   first | rw [if_pos hb1] at a128 | rw [if_neg hb1] at a128
   clear hb
   simp only [Nat.reduceAdd]
   go_enter Tryd.func76, Tryd.ntmps76
   go_wp2
   go_end0
 ·refine ⟨rfl, ?_, ((((Turn.refl base W (One g)).set_ rfl HB _).set_ rfl HB _).set_ rfl HB _)⟩
  exact ((H.out.set_tail 0 (.int .u8 b) (v' := { v with vreg := b }) rfl rfl rfl rfl).set_tail 2 (.int .i64 0) (v' := { v with vreg := b, vn := 0 }) rfl rfl rfl rfl).set_tail 1 (.int .u8 (b % 64)) rfl rfl rfl rfl
 ·refine ⟨rfl, ?_, (((Turn.refl base W (One g)).set_ rfl HB _).set_ rfl HB _)⟩
  exact ((H.out.set_tail 0 (.int .u8 b) (v' := { v with vreg := b }) rfl rfl rfl rfl).set_tail 2 (.int .i64 0) (v' := { v with vreg := b, vn := 0 }) rfl rfl rfl rfl)
 ·refine ⟨rfl, ?_, ((((Turn.refl base W (One g)).set_ rfl HB _).set_ rfl HB _).set_ rfl HB _)⟩
  exact ((H.out.set_tail 3 (.int .u8 b) (v' := { v with mreg := b }) rfl rfl rfl rfl).set_tail 5 (.int .i64 0) (v' := { v with mreg := b, mn := 0 }) rfl rfl rfl rfl).set_tail 4 (.int .u8 (b % 64)) rfl rfl rfl rfl
 ·refine ⟨rfl, ?_, (((Turn.refl base W (One g)).set_ rfl HB _).set_ rfl HB _)⟩
  exact ((H.out.set_tail 3 (.int .u8 b) (v' := { v with mreg := b }) rfl rfl rfl rfl).set_tail 5 (.int .i64 0) (v' := { v with mreg := b, mn := 0 }) rfl rfl rfl rfl)
end Go.Proofs.YtaiaapjlpbhlbaaDoor.Wave
