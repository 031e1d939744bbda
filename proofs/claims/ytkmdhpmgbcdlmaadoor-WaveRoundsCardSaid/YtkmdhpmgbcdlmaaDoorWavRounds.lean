/-
  WaveRounds: without turns the table's places follow one another, each as long as the pitch tells. By the prover of this repo.
-/
import Derived.Test.YtkmdhpmgbcdlmaaDoorWavSlopes
import Derived.Test.YtkmdhpmgbcdlmaaDoorWavPit
namespace Go.Proofs.YtkmdhpmgbcdlmaaDoor.Wave
open Go.RowKit Go.Proofs.YtkmdhpmgbcdlmaaDoor.Pitch Go.Proofs.YtkmdhpmgbcdlmaaDoorW.PrintWords Go.Proofs.YtkmdhpmgbcdlmaaDoorW.PrintLast Go.Proofs.YtkmdhpmgbcdlmaaDoorW.PrintMore
set_option linter.unusedVariables false
set_option linter.unusedSimpArgs false
def vR (T : List Int) : V := { regV v0 9 128 with held := 0, table := T }
theorem vR_start : mas v0 128 = vR (zs 64) := by
  unfold mas
  have h0 : ¬ on v0 := by decide
  rw [if_pos ⟨by decide, h0⟩]
  have ho : outV v0 = 0 := by
    unfold outV
    rw [if_neg h0, show v0.table = zs 64 from rfl, rd_zs, Int.zero_mul, Int.zero_mul]
  rw [ho]; rfl
theorem vR_tab (T : List Int) (i b : Int) : tab (vR T) i b = vR (T.set i.toNat (b % 64)) := by
  unfold tab
  rw [if_pos (show on (vR T) from (show (128 : Int) ≤ 128 by decide))]
  rfl
def tabK (T : List Int) (k : Int) : Prop := T.length = 64 ∧ (∀ i, 0 ≤ rd T i ∧ rd T i < 64) ∧ ∀ i, 0 ≤ i → i < k → rd T i = i
theorem rd_setT (T : List Int) (i : Nat) (b : Int) (j : Int) (h0 : 0 ≤ j) (hi : i < T.length) : rd (T.set i b) j = if j = (i : Int) then b else rd T j := by
  unfold rd
  rw [List.getD_eq_getElem?_getD, List.getD_eq_getElem?_getD]
  by_cases h : j = (i : Int)
  · rw [if_pos h, h, Int.toNat_natCast, List.getElem?_set_self hi]; rfl
  · rw [if_neg h, List.getElem?_set_ne (by omega)]
theorem tabK_set {T : List Int} {k : Int} (h : tabK T k) (h0 : 0 ≤ k) (h1 : k < 64) : tabK (T.set k.toNat (k % 64)) (k + 1) := by
  obtain ⟨a, b, c⟩ := h
  refine ⟨by rw [List.length_set]; exact a, rd_set_P (fun x => 0 ≤ x ∧ x < 64) T _ _ (by omega) b, fun i i0 i1 => ?_⟩
  rw [rd_setT _ _ _ _ i0 (by omega), Int.toNat_of_nonneg h0]
  split
  · omega
  · exact c i i0 (by omega)
theorem vR_ok {T : List Int} {k : Int} (h : tabK T k) : Okv (vR T) := by
  have w : Wf (vR (zs 64)) := by rw [← vR_start]; exact wf0.mas 128 ⟨by decide, by decide⟩
  exact ⟨⟨h.2.1, w.turns, w.reg, w.vgain, w.mgain, w.vreg, w.mreg, w.wat, w.bat, w.held⟩, okv0.vn, okv0.mn, okv0.wrest, okv0.brest, okv0.counter, okv0.cycle⟩
/-- the wave's places: behind c of 16 cycles, of a sum of pitches -/
structure R (mm p c sum : Int) (v : V) : Prop where
  ok : Okv v
  table : ∀ i, 0 ≤ i → i < 64 → rd v.table i = i
  r9 : rd v.reg 9 = mm
  r3 : rd v.reg 3 < 64
  r7 : rd v.reg 7 = 128
  tw_ : tw v 3 2 = p
  vreg : v.vreg = 129
  vgain : v.vgain = 1
  mreg : v.mreg = 0
  mgain : v.mgain = 0
  counter : v.counter = 0
  cycle : v.cycle = c
  wat : v.wat = sum / 65536 % 64
  wrest : v.wrest = sum % 65536
theorem R.clk {mm p c sum : Int} {v : V} (h : R mm p c sum v) : (clk1 v).vgain = 1 ∧ (clk1 v).mgain = 0 := by
  unfold clk1
  rw [if_pos h.r3]
  constructor
  · show (clkS v.vreg v.vgain v.vn (rd v.reg 10)).1 = 1
    unfold clkS
    rw [if_pos (by rw [h.vreg]; decide), h.vgain]
  · show (clkS v.mreg v.mgain v.mn (rd v.reg 10)).1 = 0
    unfold clkS
    rw [h.mreg, h.mgain, if_neg (by decide)]
    split
    · rfl
    · rw [if_pos (by decide)]; rfl
theorem R.next {mm p c sum : Int} {v : V} (h : R mm p c sum v) (hp : 0 ≤ p ∧ p < 4096) (hs : 0 ≤ sum) : R mm p ((c + 1) % 16) (if 0 < (c + 1) % 16 then sum else sum + p) (clockV v) := by
  have hk := h.clk
  have ho := clockV_ok h.ok
  have er := clk1_reg v
  have hcy : (cycV (clk1 v)).cycle = (c + 1) % 16 := by show ((clk1 v).cycle + 1) % 16 = _; rw [clk1_cycle, h.cycle]
  have f : ∀ {α : Type} (f : V → α) (_ : ∀ v m, f (clkM (clkV v m) m) = f v), f (clk1 v) = f v := by
    intro α f hf
    unfold clk1
    rw [if_pos h.r3]
    exact hf _ _
  have e1 := f (fun v => v.table) (fun _ _ => rfl)
  have e2 := f (fun v => v.vreg) (fun _ _ => rfl)
  have e3 := f (fun v => v.mreg) (fun _ _ => rfl)
  have e4 := f (fun v => v.counter) (fun _ _ => rfl)
  have e5 := f (fun v => v.wat) (fun _ _ => rfl)
  have e6 := f (fun v => v.wrest) (fun _ _ => rfl)
  have hst : stepV (cycV (clk1 v)) = cycV (clk1 v) := by
    unfold stepV
    rw [if_pos (by show 128 ≤ rd (clk1 v).reg 7; rw [er, h.r7]; decide)]
  have htw : tw (cycV (clk1 v)) 3 2 = p := by
    show rd (clk1 v).reg 3 % 16 * 256 + rd (clk1 v).reg 2 = p
    rw [er]; exact h.tw_
  unfold clockV at ho ⊢
  rw [hcy] at ho ⊢
  by_cases hc : 0 < (c + 1) % 16
  · rw [if_pos hc] at ho ⊢
    rw [if_pos hc]
    exact ⟨ho, by show ∀ i, 0 ≤ i → i < 64 → rd (clk1 v).table i = i; rw [e1]; exact h.table, by show rd (clk1 v).reg 9 = mm; rw [er]; exact h.r9, by show rd (clk1 v).reg 3 < 64; rw [er]; exact h.r3, by show rd (clk1 v).reg 7 = 128; rw [er]; exact h.r7, htw, e2.trans h.vreg, hk.1, e3.trans h.mreg, hk.2, e4.trans h.counter, hcy, e5.trans h.wat, e6.trans h.wrest⟩
  · rw [if_neg hc] at ho ⊢
    rw [if_neg hc]
    rw [hst] at ho ⊢
    have htk : tickV (cycV (clk1 v)) = addW (cycV (clk1 v)) p := by
      unfold tickV
      rw [if_neg (by show ¬ 128 ≤ rd (clk1 v).reg 3; rw [er]; have := h.r3; omega), htw]
      have ha : ans p (cycV (clk1 v)).counter (cycV (clk1 v)).mgain = p := by
        show ans p (clk1 v).counter (clk1 v).mgain = p
        rw [e4, hk.2, h.counter]
        exact ((law_true p 0 0).2 (by omega)).1 (.inl rfl)
      rw [ha]
    rw [htk] at ho ⊢
    have hw : (addW (cycV (clk1 v)) p).wat = (sum + p) / 65536 % 64 ∧ (addW (cycV (clk1 v)) p).wrest = (sum + p) % 65536 := by
      have a1 : (cycV (clk1 v)).wrest = sum % 65536 := e6.trans h.wrest
      have a2 : (cycV (clk1 v)).wat = sum / 65536 % 64 := e5.trans h.wat
      unfold addW
      rw [a1, a2]
      split
      · exact ⟨by dsimp only; omega, by dsimp only; omega⟩
      · exact ⟨by dsimp only; omega, by dsimp only; omega⟩
    have g : ∀ {α : Type} (f : V → α) (_ : ∀ v n, f (addW v n) = f v), f (addW (cycV (clk1 v)) p) = f (cycV (clk1 v)) := fun f hf => hf _ _
    have k1 : (addW (cycV (clk1 v)) p).table = v.table := (g (fun v => v.table) (fun v n => by unfold addW; split <;> rfl)).trans e1
    have k2 : (addW (cycV (clk1 v)) p).reg = v.reg := (g (fun v => v.reg) (fun v n => by unfold addW; split <;> rfl)).trans er
    have k3 : (addW (cycV (clk1 v)) p).vreg = 129 := (g (fun v => v.vreg) (fun v n => by unfold addW; split <;> rfl)).trans (e2.trans h.vreg)
    have k4 : (addW (cycV (clk1 v)) p).vgain = 1 := (g (fun v => v.vgain) (fun v n => by unfold addW; split <;> rfl)).trans hk.1
    have k5 : (addW (cycV (clk1 v)) p).mreg = 0 := (g (fun v => v.mreg) (fun v n => by unfold addW; split <;> rfl)).trans (e3.trans h.mreg)
    have k6 : (addW (cycV (clk1 v)) p).mgain = 0 := (g (fun v => v.mgain) (fun v n => by unfold addW; split <;> rfl)).trans hk.2
    have k7 : (addW (cycV (clk1 v)) p).counter = 0 := (g (fun v => v.counter) (fun v n => by unfold addW; split <;> rfl)).trans (e4.trans h.counter)
    have k8 : (addW (cycV (clk1 v)) p).cycle = (c + 1) % 16 := (g (fun v => v.cycle) (fun v n => by unfold addW; split <;> rfl)).trans hcy
    exact ⟨ho, by rw [k1]; exact h.table, by rw [k2]; exact h.r9, by rw [k2]; exact h.r3, by rw [k2]; exact h.r7, by unfold tw; rw [k2]; exact h.tw_, k3, k4, k5, k6, k7, k8, hw.1, hw.2⟩
theorem R.out {mm p c sum : Int} {v : V} (h : R mm p c sum v) (h0 : 0 ≤ mm) (h1 : mm < 4) : outV v = sum / 65536 % 64 * rd ML mm := by
  unfold outV
  rw [if_neg (by unfold on; rw [h.r9]; omega), h.r9, show mm % 4 = mm by omega, h.vgain, h.wat, h.table _ (by omega) (by omega)]
  rw [show min (1 : Int) 32 = 1 from rfl, Int.mul_one]
theorem R.step {mm p j sum : Int} {v : V} (h : R mm p (j % 16) (if j < 16 then sum else sum + p) v) (hp : 0 ≤ p ∧ p < 4096) (hs : 0 ≤ sum) (h0 : 0 ≤ j) (h1 : j < 16) : R mm p ((j + 1) % 16) (if j + 1 < 16 then sum else sum + p) (clockV v) := by
  rw [if_pos h1] at h
  have hn := h.next hp hs
  rw [show (j % 16 + 1) % 16 = (j + 1) % 16 by omega] at hn
  by_cases c : j + 1 < 16
  · rw [if_pos c]
    rw [if_pos (by omega)] at hn
    exact hn
  · rw [if_neg c]
    rw [if_neg (by omega)] at hn
    exact hn
theorem or2048_all : ((List.range 4096).all fun a => decide (0 ≤ Go.bits .or .i64 (a : Int) 2048 ∧ Go.bits .or .i64 (a : Int) 2048 < 4096)) = true := by kernel_rfl
theorem or2048 (x : Int) (h0 : 0 ≤ x) (h1 : x < 4096) : 0 ≤ Go.bits .or .i64 x 2048 ∧ Go.bits .or .i64 x 2048 < 4096 := by
  have h := of_decide_eq_true (List.all_eq_true.1 or2048_all x.toNat (List.mem_range.2 (by omega)))
  rwa [Int.toNat_of_nonneg h0] at h
theorem R_begin {T : List Int} (hT : tabK T 64) (mm p lo hi : Int) (m0 : 0 ≤ mm) (m1 : mm < 4) (l0 : 0 ≤ lo) (l1 : lo < 256) (h0 : 0 ≤ hi) (h1 : hi < 16) (hp : hi * 256 + lo = p) :
    Okv (regV (regV (thi (vol (regV (vR T) 9 mm) 129) 128) 2 lo) 3 hi) → R mm p 0 0 (regV (regV (thi (vol (regV (vR T) 9 mm) 129) 128) 2 lo) 3 hi) := by
  intro ho
  refine ⟨ho, hT.2.2, rfl, ?_, rfl, ?_, rfl, rfl, rfl, rfl, rfl, rfl, rfl, rfl⟩
  · show hi < 64
    omega
  · show hi % 16 * 256 + lo = p
    omega
theorem okv_reg {v : V} (h : Okv v) (i : Nat) (b : Int) (hb : U8 b) : Okv (regV v i b) := h.of (h.wf.reg_ i b hb) (Or.inl rfl) (Or.inl rfl) (Or.inl rfl) (Or.inl rfl) h.counter rfl
set_option maxRecDepth 20000 in
set_option maxHeartbeats 8000000 in
theorem rounds_walk (a0 a1 a2 : Int) (W : World) (hm : MS W) (hts : TS W) (hg : 0 < W.heap.size) (hg2 : 1 < W.heap.size) (u0 : 0 ≤ a0 ∧ a0 < 65536) (u1 : U8 a1) (u2 : U8 a2) :
    Calls Tryd.prog 5 #[.int .u16 a0, .int .u8 a1, .int .u8 a2] W fun e W' => e = .returned (.bool true) ∧ Below W.heap.size W W' := by
  have HM := Aside0.mk hm
  have HGM := Aside0.mk hg
  have HTS := Aside0.mk (fun (W1 : World) (hb : Below W.heap.size W W1) => hts.below hb hg2)
  have HG2 := Aside0.mk hg2
  have m0 : a0.tmod 4096 = a0 % 4096 := Int.tmod_eq_emod_of_nonneg u0.1
  have m1 := and3 a1 u1.1 u1.2
  have hp := or2048 (a0 % 4096) (by omega) (by omega)
  have wp0 : wrap64 (a0 % 4096) = a0 % 4096 := wr64 (by omega) (by omega)
  have hmm : 0 ≤ a1 % 4 ∧ a1 % 4 < 4 := by omega
  have wn : wrap64 a2 = a2 := wr64 (by have := u2; unfold U8 at this; omega) (by have := u2; unfold U8 at this; omega)
  have wn2 : wrap64 (a2 * 16) = a2 * 16 := wr64 (by have := u2; unfold U8 at this; omega) (by have := u2; unfold U8 at this; omega)
  generalize a0 % 4096 = a at *
  generalize a1 % 4 = mm at *
  generalize hpe : Go.bits .or .i64 a 2048 = p at hp
  have c1 : IntKind.u8.wrap p = p % 256 := IntKind.wrap_u8 p
  have c2 : IntKind.u8.wrap (p / 256) = p / 256 := by rw [IntKind.wrap_u8]; omega
  have HP := Aside0.mk hp
  have HMM := Aside0.mk hmm
  have HU2 := Aside0.mk u2
  have HLO := Aside0.mk (show U8 (p % 256) from ⟨by omega, by omega⟩)
  have HHI := Aside0.mk (show U8 (p / 256) ∧ p / 256 < 16 from ⟨⟨by omega, by omega⟩, by omega⟩)
  clear hm hts hg hg2 u0 u1 u2 hp hmm
  go_enter Tryd.func5, Tryd.ntmps5
  go_wp2_with (go_at_call 9; refine (awake_calls W HM.out HGM.out).mono ?_; rintro e w1 ⟨rfl, hb⟩; have HB1 := Aside0.mk hb; clear hb)
  refine (new_calls W.heap.size _ HB1.out.size).mono ?_
  rintro e w2 ⟨g, rfl, hi, hb, hg⟩
  have HI2 := Aside0.mk hi; have HB2 := Aside0.mk (HB1.out.trans (hb.mono HB1.out.size)); clear hi hb hg
  go_wp2_with fail
  refine (put_mas W.heap.size g v0 _ HI2.out wf0 (HM.out.below HB2.out HGM.out) 128 ⟨by decide, by decide⟩).mono ?_
  rintro e w3 ⟨rfl, hi, ht⟩
  rw [vR_start] at hi
  have HI3 := Aside0.mk hi; have HB3 := Aside0.mk (HB2.out.trans ht.below); clear hi ht
  clear HI2 HB2 HB1
  go_wp2_with fail
  go_loopg [18] 64 (fun kq v18 w' => ∃ (k : Int) (T : List Int), v18 = .int .u16 k ∧ Aside0 (Is W.heap.size w' g (vR T) ∧ tabK T k ∧ k + kq = 64 ∧ 0 ≤ k) ∧ Aside0 (Below W.heap.size W w'))
  case atStart => exact ⟨0, zs 64, rfl, ⟨HI3.out, ⟨by decide, fun i => by rw [rd_zs]; decide, fun i h0 h1 => absurd h1 (by omega)⟩, by decide, by decide⟩, HB3⟩
  case round =>
    obtain ⟨k, T, rfl, HR, HB⟩ := hrel
    by_cases hlt : k < 64
    · have d1 : decide (k < 64) = true := decide_eq_true hlt
      have hk0 := HR.out.2.2.2
      have k1 : IntKind.u16.wrap (16448 + k) = 16448 + k := by rw [IntKind.wrap_u16]; omega
      have k2 : IntKind.u8.wrap k = k := by rw [IntKind.wrap_u8]; omega
      have k3 : IntKind.u16.wrap (k + 1) = k + 1 := by rw [IntKind.wrap_u16]; omega
      have HL := Aside0.mk (And.intro hlt hk0)
      clear hlt hk0
      go_wp2_with fail
      refine (put_tab W.heap.size g (vR T) _ HR.out.1 (vR_ok HR.out.2.1).wf (16448 + k) (by have := HL.out; omega) (by have := HL.out; omega) k ⟨HL.out.2, by have := HL.out; omega⟩).mono ?_
      rintro e w4 ⟨rfl, hi, ht⟩
      rw [vR_tab, show 16448 + k - 16448 = k by omega] at hi
      have HI4 := Aside0.mk hi; have HB4 := Aside0.mk (HB.out.trans ht.below); clear hi ht
      go_wp2
      go_roundg (gk - 1)
      case measure => have := HL.out; have := HR.out.2.2.1; omega
      case rel =>
        have := HL.out
        have := HR.out.2.2.1
        exact ⟨k + 1, _, by first | rfl | (congr 1), ⟨HI4.out, tabK_set HR.out.2.1 HL.out.2 HL.out.1, by omega, by omega⟩, HB4⟩
    · have d1 : decide (k < 64) = false := decide_eq_false hlt
      have HT := Aside0.mk (show Is W.heap.size wr g (vR T) ∧ tabK T 64 from ⟨HR.out.1, by have h := HR.out.2; rw [show k = 64 by omega] at h; exact h.1⟩)
      clear hlt HR
      go_wp2_with fail
      refine (put_mas W.heap.size g (vR T) _ HT.out.1 (vR_ok HT.out.2).wf (HM.out.below HB.out HGM.out) mm ⟨HMM.out.1, by have := HMM.out; omega⟩).mono ?_
      rintro e w5 ⟨rfl, hi, ht⟩
      have em : mas (vR T) mm = regV (vR T) 9 mm := by unfold mas; rw [if_neg (fun h => by have := HMM.out; omega)]
      rw [em] at hi
      have HO5 := Aside0.mk (okv_reg (vR_ok HT.out.2) 9 mm ⟨HMM.out.1, by have := HMM.out; omega⟩)
      have HI5 := Aside0.mk hi; have HB5 := Aside0.mk (HB.out.trans ht.below); clear hi ht em
      go_wp2_with fail
      refine (put_vol W.heap.size g _ _ HI5.out HO5.out.wf (HM.out.below HB5.out HGM.out) 129 ⟨by decide, by decide⟩).mono ?_
      rintro e w6 ⟨rfl, hi, ht⟩
      have HO6 := Aside0.mk (putV_ok HO5.out 16512 129 ⟨by decide, by decide⟩)
      have HI6 := Aside0.mk hi; have HB6 := Aside0.mk (HB5.out.trans ht.below); clear hi ht
      go_wp2_with fail
      refine (put_thi W.heap.size g _ _ HI6.out HO6.out.wf (HM.out.below HB6.out HGM.out) 128 ⟨by decide, by decide⟩).mono ?_
      rintro e w7 ⟨rfl, hi, ht⟩
      have HO7 := Aside0.mk (putV_ok HO6.out 16519 128 ⟨by decide, by decide⟩)
      have HI7 := Aside0.mk hi; have HB7 := Aside0.mk (HB6.out.trans ht.below); clear hi ht
      go_wp2_with fail
      refine (put_all W.heap.size g _ _ HI7.out HO7.out.wf (HM.out.below HB7.out HGM.out) 16514 (by decide) (by decide) (p % 256) HLO.out).mono ?_
      rintro e w8 ⟨rfl, hi, ht⟩
      have HO8 := Aside0.mk (putV_ok HO7.out 16514 (p % 256) HLO.out)
      have HI8 := Aside0.mk hi; have HB8 := Aside0.mk (HB7.out.trans ht.below); clear hi ht
      go_wp2_with fail
      refine (put_hig W.heap.size g _ _ HI8.out HO8.out.wf (HM.out.below HB8.out HGM.out) (p / 256) HHI.out.1).mono ?_
      rintro e w9 ⟨rfl, hi, ht⟩
      have HO9 := Aside0.mk (putV_ok HO8.out 16515 (p / 256) HHI.out.1)
      have eh : hig (putV (thi (vol (regV (vR T) 9 mm) 129) 128) 16514 (p % 256)) (p / 256) = regV (regV (thi (vol (regV (vR T) 9 mm) 129) 128) 2 (p % 256)) 3 (p / 256) := by
        unfold hig
        rw [if_neg (by have := HHI.out; omega)]
        rfl
      have HI9 := Aside0.mk (show Is W.heap.size w9 g (regV (regV (thi (vol (regV (vR T) 9 mm) 129) 128) 2 (p % 256)) 3 (p / 256)) from eh ▸ hi)
      have HB9 := Aside0.mk (HB8.out.trans ht.below)
      have HR9 := Aside0.mk (R_begin HT.out.2 mm p (p % 256) (p / 256) HMM.out.1 HMM.out.2 HLO.out.1 HLO.out.2 HHI.out.1.1 HHI.out.2 (by omega) (show Okv (regV (regV (thi (vol (regV (vR T) 9 mm) 129) 128) 2 (p % 256)) 3 (p / 256)) from eh ▸ HO9.out))
      clear hi ht eh HI5 HI6 HI7 HI8 HB5 HB6 HB7 HB8 HO5 HO6 HO7 HO8 HO9 HT HB HI3 HB3
      generalize regV (regV (thi (vol (regV (vR T) 9 mm) 129) 128) 2 (p % 256)) 3 (p / 256) = v9 at *
      go_upto_region 16 with fail
      go_cut [10] (fun v10 wc => v10 = .int .i64 (rd ML mm) ∧ Aside0 (Is W.heap.size wc g v9) ∧ Aside0 (Below W.heap.size W wc))
      case first =>
        rcases (show mm = 0 ∨ mm = 1 ∨ mm = 2 ∨ mm = 3 by have := HMM.out; omega) with h4 | h4 | h4 | h4
        all_goals
          subst h4
          go_wp2
          go_meet
          case rel => exact ⟨rfl, ⟨HI9.out.below (by first | exact below_alloc (Below.refl _ _) _ | exact (below_alloc (Below.refl _ _) _))⟩, ⟨by first | exact below_alloc HB9.out _ | exact HB9.out⟩⟩
      case rest =>
        obtain ⟨rfl, HI10, HB10⟩ := hcut
        clear HI9 HB9
        have hby : 0 ≤ rd ML mm ∧ rd ML mm ≤ 30 := by
          rcases (show mm = 0 ∨ mm = 1 ∨ mm = 2 ∨ mm = 3 by have := HMM.out; omega) with h4 | h4 | h4 | h4 <;> rw [h4] <;> decide
        have HBY := Aside0.mk hby
        clear hby
        go_wp2_with fail
        rw [wn2, wn]
        go_loopg [11, 57] (a2 * 16).toNat (fun kq v11 v57 w' => ∃ (i sum : Int) (v : V), v11 = .int .i64 sum ∧ v57 = .int .i64 i ∧ Aside0 (Is W.heap.size w' g v ∧ R mm p 0 sum v) ∧ Aside0 (i + kq = a2 * 16 ∧ 0 ≤ i ∧ i ≤ 2001 ∧ 0 ≤ sum ∧ sum ≤ 4096 * i) ∧ Aside0 (Below W.heap.size W w'))
        case atStart => exact ⟨0, 0, v9, rfl, rfl, ⟨HI10.out, HR9.out⟩, ⟨by have := HU2.out; unfold U8 at this; omega, by decide, by decide, by decide, by decide⟩, HB10⟩
        case round =>
          obtain ⟨i, sum, v, rfl, rfl, HV, HK, HB⟩ := hrel
          clear HI10 HB10
          by_cases hlt : i < a2 * 16
          · have d1 : decide (i < a2 * 16) = true := decide_eq_true hlt
            have HL := Aside0.mk hlt
            have HO := Aside0.mk (out_calls W.heap.size g v wr HV.out.1 HV.out.2.ok.wf (HM.out.below HB.out HGM.out))
            rw [HV.out.2.out HMM.out.1 HMM.out.2] at HO
            have t1 : sum.tdiv 65536 = sum / 65536 := Int.tdiv_eq_ediv_of_nonneg (by have := HK.out; omega)
            have t2 : (sum / 65536).tmod 64 = sum / 65536 % 64 := Int.tmod_eq_emod_of_nonneg (by have := HK.out; omega)
            have hx : 0 ≤ sum / 65536 % 64 ∧ sum / 65536 % 64 < 64 := by omega
            have hpr1 : sum / 65536 % 64 * rd ML mm ≤ 63 * 30 := Int.mul_le_mul (by omega) HBY.out.2 HBY.out.1 (by decide)
            have hpr0 : 0 ≤ sum / 65536 % 64 * rd ML mm := Int.mul_nonneg hx.1 HBY.out.1
            have t3 : wrap64 (sum / 65536 % 64 * rd ML mm) = sum / 65536 % 64 * rd ML mm := wr64 (by omega) (by omega)
            have t4 : wrap64 (sum + p) = sum + p := wr64 (by have := HK.out; have := HP.out; omega) (by have := HK.out; have := HP.out; omega)
            have t5 : wrap64 (i + 1) = i + 1 := wr64 (by have := HK.out; omega) (by have := HK.out; omega)
            have t6 : wrap64 (sum / 65536) = sum / 65536 := wr64 (by have := HK.out; omega) (by have := HK.out; omega)
            clear hx hpr1 hpr0 hlt
            go_wp2_with (go_at_call 12; refine HO.out.mono ?_; rintro e w10 ⟨rfl, n10, rfl⟩)
            try rw [t3]
            try rw [t6]
            go_loopg [68] 16 (fun kq v68 w' => ∃ (j : Int) (v : V), v68 = .int .i64 j ∧ Aside0 (Is W.heap.size w' g v ∧ R mm p (j % 16) (if j < 16 then sum else sum + p) v) ∧ Aside0 (j + kq = 16 ∧ 0 ≤ j) ∧ Aside0 (Below W.heap.size W w'))
            case atStart => exact ⟨0, v, rfl, ⟨HV.out.1.drewN n10, HV.out.2⟩, ⟨by decide, by decide⟩, ⟨pw_below_drewN HB.out n10⟩⟩
            case round =>
              clear HV HB HO
              obtain ⟨j, v, rfl, HV, HJK, HB⟩ := hrel
              by_cases hj : j < 16
              · have d2 : decide (j < 16) = true := decide_eq_true hj
                have wj : wrap64 (j + 1) = j + 1 := wr64 (by have := HJK.out; omega) (by have := HJK.out; omega)
                have HCL := Aside0.mk (clock_calls W.heap.size g v wr HV.out.1 HV.out.2.ok (HTS.out _ HB.out) HG2.out)
                have HJN := Aside0.mk (HV.out.2.step HP.out HK.out.2.2.2.1 HJK.out.2 hj)
                have HJ2 := Aside0.mk hj
                clear hj
                go_wp2_with fail
                refine HCL.out.mono ?_
                rintro e w11 ⟨rfl, hi, ht⟩
                have HI11 := Aside0.mk hi; have HB11 := Aside0.mk (HB.out.trans ht.below); clear hi ht
                go_wp2
                go_roundg (gk - 1)
                case measure => have := HJK.out; have := HJ2.out; omega
                case rel =>
                  have := HJK.out
                  have := HJ2.out
                  exact ⟨j + 1, _, by first | rfl | (congr 1), ⟨HI11.out, HJN.out⟩, ⟨by omega, by omega⟩, HB11⟩
              · have d2 : decide (j < 16) = false := decide_eq_false hj
                have HRN := Aside0.mk (show R mm p 0 (sum + p) v from by
                  have h := HV.out.2
                  have hk := HJK.out
                  rw [if_neg hj, show j % 16 = 0 by omega] at h
                  exact h)
                clear hj
                by_cases hb : 2000 < i
                · have d3 : decide (2000 < i) = true := decide_eq_true hb
                  clear hb
                  go_wp2
                  go_ret
                  exact ⟨rfl, HB.out⟩
                · have d3 : decide (2000 < i) = false := decide_eq_false hb
                  have HBB := Aside0.mk hb
                  clear hb
                  go_wp2
                  go_roundg ((a2 * 16 - i - 1).toNat)
                  case measure => have := HK.out; have := HL.out; omega
                  case rel =>
                    have := HK.out
                    have := HL.out
                    have := HBB.out
                    have := HP.out
                    exact ⟨i + 1, sum + p, v, by first | rfl | (congr 1), by first | rfl | (congr 1), ⟨HV.out.1, HRN.out⟩, ⟨by omega, by omega, by omega, by omega, by omega⟩, HB⟩
          · have d1 : decide (i < a2 * 16) = false := decide_eq_false hlt
            clear hlt
            go_wp2
            go_ret
            exact ⟨rfl, HB.out⟩
end Go.Proofs.YtkmdhpmgbcdlmaaDoor.Wave
