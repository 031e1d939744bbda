/-
  WaveSlopes: a gain that goes by itself. By the prover of this repo.
-/
import Derived.Test.YtaiaapjlpbhlbaaDoorWavClock
namespace Go.Proofs.YtaiaapjlpbhlbaaDoor.Wave
open Go.RowKit Go.Proofs.YtaiaapjlpbhlbaaDoorW.PrintWords Go.Proofs.YtaiaapjlpbhlbaaDoorW.PrintLast Go.Proofs.YtaiaapjlpbhlbaaDoorW.PrintMore
set_option linter.unusedVariables false
set_option linter.unusedSimpArgs false
theorem Okv.of {v v' : V} (h : Okv v) (w : Wf v') (a : v'.vn = v.vn ∨ v'.vn = 0) (b : v'.mn = v.mn ∨ v'.mn = 0) (c : v'.wrest = v.wrest ∨ v'.wrest = 0) (d : v'.brest = v.brest ∨ v'.brest = 0) (e : -64 ≤ v'.counter ∧ v'.counter < 64) (f : v'.cycle = v.cycle) : Okv v' := by
  have h1 := h.vn
  have h2 := h.mn
  have h3 := h.wrest
  have h4 := h.brest
  have h5 := h.cycle
  exact ⟨w, by omega, by omega, by omega, by omega, e, by omega⟩
theorem putV_ok {v : V} (h : Okv v) (a b : Int) (hb : U8 b) : Okv (putV v a b) := by
  have hw := putV_wf h.wf a b hb
  revert hw
  unfold putV
  repeat' split
  case isTrue => exact fun _ => h
  all_goals intro hw
  all_goals first
    | exact h.of hw (by first | exact Or.inl rfl | exact Or.inr rfl) (by first | exact Or.inl rfl | exact Or.inr rfl) (by first | exact Or.inl rfl | exact Or.inr rfl) (by first | exact Or.inl rfl | exact Or.inr rfl) h.counter rfl
    | exact h.of hw (Or.inl rfl) (Or.inl rfl) (Or.inl rfl) (Or.inl rfl) (by show -64 ≤ (if 64 ≤ b % 128 then b % 128 - 128 else b % 128) ∧ (if 64 ≤ b % 128 then b % 128 - 128 else b % 128) < 64; omega) rfl
    | (unfold tab at hw ⊢; by_cases c : on v; (rw [if_pos c] at hw ⊢; exact h.of hw (Or.inl rfl) (Or.inl rfl) (Or.inl rfl) (Or.inl rfl) h.counter rfl); (rw [if_neg c]; exact h))
    | (unfold hig at hw ⊢; by_cases c : 128 ≤ b; (rw [if_pos c] at hw ⊢; exact h.of hw (Or.inl rfl) (Or.inl rfl) (Or.inr rfl) (Or.inl rfl) h.counter rfl); (rw [if_neg c] at hw ⊢; exact h.of hw (Or.inl rfl) (Or.inl rfl) (Or.inl rfl) (Or.inl rfl) h.counter rfl))
    | (unfold thi at hw ⊢; by_cases c : 128 ≤ b; (rw [if_pos c] at hw ⊢; exact h.of hw (Or.inl rfl) (Or.inl rfl) (Or.inl rfl) (Or.inr rfl) h.counter rfl); (rw [if_neg c] at hw ⊢; exact h.of hw (Or.inl rfl) (Or.inl rfl) (Or.inl rfl) (Or.inl rfl) h.counter rfl))
    | (unfold layV at hw ⊢; by_cases c : 128 ≤ rd (regV v 8 b).reg 7; (rw [if_pos c] at hw ⊢; exact h.of hw (Or.inl rfl) (Or.inl rfl) (Or.inl rfl) (Or.inl rfl) h.counter rfl); (rw [if_neg c] at hw ⊢; exact h.of hw (Or.inl rfl) (Or.inl rfl) (Or.inl rfl) (Or.inl rfl) h.counter rfl))
    | (unfold mas at hw ⊢; by_cases c : 128 ≤ b ∧ ¬ on v; (rw [if_pos c] at hw ⊢; exact h.of hw (Or.inl rfl) (Or.inl rfl) (Or.inl rfl) (Or.inl rfl) h.counter rfl); (rw [if_neg c] at hw ⊢; exact h.of hw (Or.inl rfl) (Or.inl rfl) (Or.inl rfl) (Or.inl rfl) h.counter rfl))
theorem clockV_f {α : Type} (f : V → α) (v : V) (h1 : ∀ v, f (cycV v) = f v) (h2 : ∀ v n, f (addW v n) = f v) (h3 : ∀ v n, f (addB v n) = f v) (h4 : ∀ v t, f (turned v t) = f v) : f (clockV v) = f (clk1 v) := by
  unfold clockV
  split
  · exact h1 _
  · unfold tickV
    have hs : f (stepV (cycV (clk1 v))) = f (clk1 v) := by
      unfold stepV
      split
      · exact h1 _
      split
      · exact (h3 _ _).trans (h1 _)
      · exact (h4 _ _).trans ((h3 _ _).trans (h1 _))
    split
    · exact hs
    · exact (h2 _ _).trans hs
/-- a slope's register, gain and count: of the turns, or of the volume -/
def sl (t : Bool) (v : V) : Int × Int × Int := if t = true then (v.mreg, v.mgain, v.mn) else (v.vreg, v.vgain, v.vn)
theorem clockV_sl (t : Bool) (v : V) : (clockV v).reg = v.reg ∧ sl t (clockV v) = (if rd v.reg 3 < 64 then ((sl t v).1, clkS (sl t v).1 (sl t v).2.1 (sl t v).2.2 (rd v.reg 10)) else sl t v) := by
  have e := clockV_f (fun v => (v.reg, sl t v)) v (fun v => by cases t <;> rfl) (fun v n => by unfold addW; split <;> cases t <;> rfl) (fun v n => by unfold addB; split <;> cases t <;> rfl) (fun v n => by cases t <;> rfl)
  have e1 := congrArg Prod.fst e
  have e2 := congrArg Prod.snd e
  dsimp only at e1 e2
  refine ⟨e1.trans (clk1_reg v), e2.trans ?_⟩
  unfold clk1
  split
  · cases t <;> rfl
  · rfl
def per (r m : Int) : Int := 8 * (r % 64 + 1) * (m + 1)
def nextG (r G : Int) : Int := if r % 128 < 64 then G - min G 1 else if G < 32 then G + 1 else G
/-- the slope behind j cycles of a step that began with the gain G -/
def J (t : Bool) (q r m G j : Int) (v : V) : Prop :=
  rd v.reg 3 = q ∧ rd v.reg 10 = m ∧ (sl t v).1 = r ∧ (if q < 64 then (if j < per r m then (sl t v).2 = (G, j) else (sl t v).2 = (nextG r G, 0)) else (sl t v).2.1 = G)
theorem J.next {t : Bool} {q r m G j : Int} {v : V} (h : J t q r m G j v) (hr : r < 128) (hj : j < per r m) : J t q r m G (j + 1) (clockV v) := by
  obtain ⟨h1, h2, h3, h4⟩ := h
  obtain ⟨e1, e2⟩ := clockV_sl t v
  unfold J
  rw [e1, e2, h1]
  refine ⟨h1.symm ▸ rfl, h2, ?_, ?_⟩
  · split
    · exact h3
    · exact h3
  · by_cases hq : q < 64
    · rw [if_pos hq] at h4 ⊢
      rw [if_pos hj] at h4
      rw [if_pos hq, h3, h4, h2]
      dsimp only
      have e : clkS r G j m = if j + 1 < per r m then (G, j + 1) else (nextG r G, 0) := by
        unfold clkS nextG per
        rw [if_neg (show ¬ 128 ≤ r by omega)]
        by_cases c : j + 1 < 8 * (r % 64 + 1) * (m + 1)
        · rw [if_pos c, if_pos c]
        · rw [if_neg c, if_neg c]
          split
          · rfl
          split <;> rfl
      rw [e]
      split <;> rfl
    · rw [if_neg hq] at h4 ⊢
      rw [if_neg hq]
      exact h4
theorem per_pos {r m : Int} (hm : 0 ≤ m) : 0 < per r m := by
  unfold per
  have h1 : 0 < 8 * (r % 64 + 1) := by omega
  exact Int.mul_pos h1 (by omega)
theorem J.step {t : Bool} {q r m G j : Int} {v : V} (h : J t q r m G j v) (hm : 0 ≤ m) (hj : ¬ j < per r m) : J t q r m (if q < 64 then nextG r G else G) 0 v := by
  obtain ⟨h1, h2, h3, h4⟩ := h
  refine ⟨h1, h2, h3, ?_⟩
  by_cases hq : q < 64
  · rw [if_pos hq] at h4 ⊢
    rw [if_neg hj] at h4
    rw [if_pos (per_pos hm), if_pos hq]
    exact h4
  · rw [if_neg hq] at h4 ⊢
    rw [if_neg hq]
    exact h4
theorem J.gain {t : Bool} {q r m G : Int} {v : V} (h : J t q r m G 0 v) (hm : 0 ≤ m) : (sl t v).2.1 = G := by
  obtain ⟨h1, h2, h3, h4⟩ := h
  by_cases hq : q < 64
  · rw [if_pos hq, if_pos (per_pos hm)] at h4
    rw [h4]
  · rw [if_neg hq] at h4
    exact h4
def rg (t : Bool) : Int := if t = true then 16516 else 16512
def lk (t : Bool) : Int := if t = true then 16530 else 16528
theorem get_sl (t : Bool) (v : V) : getV v (lk t) = ((sl t v).2.1 + 64, true) := by
  cases t
  · rfl
  · rfl
def putS (t : Bool) (v : V) (b : Int) : V := if t = true then tur v b else vol v b
theorem put_sl (base : Nat) (g : Nat) (v : V) (W : World) (h : Is base W g v) (hw : Wf v) (hm : MS W) (t : Bool) (b : Int) (hb : U8 b) :
    Calls Tryd.prog 42 #[.pointer (some ⟨g, 0, none⟩), .int .u16 (rg t), .int .u8 b] W fun e W' => e = .returned (.tuple #[]) ∧ Is base W' g (putS t v b) ∧ Turn base W W' (One g) := by
  cases t
  · exact put_vol base g v W h hw hm b hb
  · exact put_tur base g v W h hw hm b hb
theorem putS_ok {v : V} (h : Okv v) (t : Bool) (b : Int) (hb : U8 b) : Okv (putS t v b) := by
  cases t
  · exact putV_ok h 16512 b hb
  · exact putV_ok h 16516 b hb
theorem putS_sl (t : Bool) (v : V) (b : Int) : sl t (putS t v b) = (b, (if 128 ≤ b then b % 64 else (sl t v).2.1), 0) := by
  cases t <;> rfl
theorem putS_reg (t : Bool) (v : V) (b : Int) : rd (putS t v b).reg 10 = rd v.reg 10 ∧ rd (putS t v b).reg 3 = rd v.reg 3 := by
  have e : ∀ (l : List Int) (i j : Nat), j < i → rd (l.set j b) (i : Int) = rd l i := by
    intro l i j h
    unfold rd
    rw [Int.toNat_natCast, List.getD_eq_getElem?_getD, List.getD_eq_getElem?_getD, List.getElem?_set_ne (by omega)]
  have e2 : ∀ (l : List Int) (i j : Nat), j ≠ i → rd (l.set j b) (i : Int) = rd l i := by
    intro l i j h
    unfold rd
    rw [Int.toNat_natCast, List.getD_eq_getElem?_getD, List.getD_eq_getElem?_getD, List.getElem?_set_ne h]
  cases t
  · exact ⟨e2 v.reg 10 0 (by decide), e2 v.reg 3 0 (by decide)⟩
  · exact ⟨e2 v.reg 10 4 (by decide), e2 v.reg 3 4 (by decide)⟩
theorem slopes_step (t : Bool) (q r m G : Int) (hG : 0 ≤ G ∧ G < 64) : 0 ≤ nextG r G ∧ nextG r G < 64 := by
  unfold nextG
  split
  · omega
  · split <;> omega
theorem or128s (x : Int) (h0 : 0 ≤ x) (h1 : x < 256) : 128 ≤ Go.bits .or .u8 128 x ∧ Go.bits .or .u8 128 x < 256 ∧ Go.bits .or .u8 128 x % 64 = x % 64 :=
  fin_u8 (fun x => 128 ≤ Go.bits .or .u8 128 x ∧ Go.bits .or .u8 128 x < 256 ∧ Go.bits .or .u8 128 x % 64 = x % 64) (by decide +kernel) x h0 h1
def bv (up : Bool) (s : Int) : Int := if up = true then s + 64 else s
theorem J_hig {t : Bool} {q r m G : Int} {v : V} (h : J t q r m G 0 v) (hm : 0 ≤ m) (hr : ∀ i, U8 (rd v.reg i)) (hl : v.reg.length = 11) (b : Int) (hb : 64 ≤ b) : J t b r m G 0 (hig v b) := by
  have e : rd (v.reg.set 3 b) 3 = b := by
    unfold rd
    rw [List.getD_eq_getElem?_getD, show (3 : Int).toNat = 3 from rfl, List.getElem?_set_self (by omega)]; rfl
  have e2 : rd (v.reg.set 3 b) 10 = rd v.reg 10 := by
    unfold rd
    rw [show (10 : Int).toNat = 10 from rfl, List.getD_eq_getElem?_getD, List.getD_eq_getElem?_getD, List.getElem?_set_ne (by decide)]
  have hg := h.gain hm
  obtain ⟨h1, h2, h3, h4⟩ := h
  have er : (hig v b).reg = v.reg.set 3 b := by unfold hig; split <;> rfl
  have es : sl t (hig v b) = sl t v := by unfold hig; split <;> cases t <;> rfl
  unfold J
  rw [er, es, e, e2]
  exact ⟨rfl, h2, h3, by rw [if_neg (by omega)]; exact hg⟩
theorem or64i_all : ((List.range 64).all fun a => decide (Go.bits .or .i64 (a : Int) 64 = (a : Int) + 64)) = true := by kernel_rfl
theorem or64i (x : Int) (h0 : 0 ≤ x) (h1 : x < 64) : Go.bits .or .i64 x 64 = x + 64 := by
  have h := of_decide_eq_true (List.all_eq_true.1 or64i_all x.toNat (List.mem_range.2 (by omega)))
  rwa [Int.toNat_of_nonneg h0] at h
end Go.Proofs.YtaiaapjlpbhlbaaDoor.Wave
