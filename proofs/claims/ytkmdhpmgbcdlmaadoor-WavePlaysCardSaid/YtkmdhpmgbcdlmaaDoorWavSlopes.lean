/-
  WaveSlopes: a gain that goes by itself. By the prover of this repo.
-/
import Derived.Test.YtkmdhpmgbcdlmaaDoorWavClock
namespace Go.Proofs.YtkmdhpmgbcdlmaaDoor.Wave
open Go.RowKit Go.Proofs.YtkmdhpmgbcdlmaaDoorW.PrintWords Go.Proofs.YtkmdhpmgbcdlmaaDoorW.PrintLast Go.Proofs.YtkmdhpmgbcdlmaaDoorW.PrintMore
set_option linter.unusedVariables false
set_option linter.unusedSimpArgs false
theorem Okv.of {v v' : V} (h : Okv v) (w : Wf v') (a : v'.vn = v.vn ∨ v'.vn = 0) (b : v'.mn = v.mn ∨ v'.mn = 0) (c : v'.wrest = v.wrest ∨ v'.wrest = 0) (d : v'.brest = v.brest ∨ v'.brest = 0) (e : -64 ≤ v'.counter ∧ v'.counter < 64) (f : v'.cycle = v.cycle) : Okv v' := by
  have h1 := h.vn
  have h2 := h.mn
  have h3 := h.wrest
  have h4 := h.brest
  have h5 := h.cycle
  exact ⟨w, by omega, by omega, by omega, by omega, e, by omega⟩
theorem putV_ok {v : V} (h : Okv v) (a b : Int) (hb : U8 b) : Okv (putV v a b) := by
  have hw := putV_wf h.wf a b hb
  revert hw
  unfold putV
  repeat' split
  case isTrue => exact fun _ => h
  all_goals intro hw
  all_goals first
    | exact h.of hw (by first | exact Or.inl rfl | exact Or.inr rfl) (by first | exact Or.inl rfl | exact Or.inr rfl) (by first | exact Or.inl rfl | exact Or.inr rfl) (by first | exact Or.inl rfl | exact Or.inr rfl) h.counter rfl
    | exact h.of hw (Or.inl rfl) (Or.inl rfl) (Or.inl rfl) (Or.inl rfl) (by show -64 ≤ (if 64 ≤ b % 128 then b % 128 - 128 else b % 128) ∧ (if 64 ≤ b % 128 then b % 128 - 128 else b % 128) < 64; omega) rfl
    | (unfold tab at hw ⊢; by_cases c : on v; (rw [if_pos c] at hw ⊢; exact h.of hw (Or.inl rfl) (Or.inl rfl) (Or.inl rfl) (Or.inl rfl) h.counter rfl); (rw [if_neg c]; exact h))
    | (unfold hig at hw ⊢; by_cases c : 128 ≤ b; (rw [if_pos c] at hw ⊢; exact h.of hw (Or.inl rfl) (Or.inl rfl) (Or.inr rfl) (Or.inl rfl) h.counter rfl); (rw [if_neg c] at hw ⊢; exact h.of hw (Or.inl rfl) (Or.inl rfl) (Or.inl rfl) (Or.inl rfl) h.counter rfl))
    | (unfold thi at hw ⊢; by_cases c : 128 ≤ b; (rw [if_pos c] at hw ⊢; exact h.of hw (Or.inl rfl) (Or.inl rfl) (Or.inl rfl) (Or.inr rfl) h.counter rfl); (rw [if_neg c] at hw ⊢; exact h.of hw (Or.inl rfl) (Or.inl rfl) (Or.inl rfl) (Or.inl rfl) h.counter rfl))
    | (unfold layV at hw ⊢; by_cases c : 128 ≤ rd (regV v 8 b).reg 7; (rw [if_pos c] at hw ⊢; exact h.of hw (Or.inl rfl) (Or.inl rfl) (Or.inl rfl) (Or.inl rfl) h.counter rfl); (rw [if_neg c] at hw ⊢; exact h.of hw (Or.inl rfl) (Or.inl rfl) (Or.inl rfl) (Or.inl rfl) h.counter rfl))
    | (unfold mas at hw ⊢; by_cases c : 128 ≤ b ∧ ¬ on v; (rw [if_pos c] at hw ⊢; exact h.of hw (Or.inl rfl) (Or.inl rfl) (Or.inl rfl) (Or.inl rfl) h.counter rfl); (rw [if_neg c] at hw ⊢; exact h.of hw (Or.inl rfl) (Or.inl rfl) (Or.inl rfl) (Or.inl rfl) h.counter rfl))
theorem clockV_f {α : Type} (f : V → α) (v : V) (h1 : ∀ v, f (cycV v) = f v) (h2 : ∀ v n, f (addW v n) = f v) (h3 : ∀ v n, f (addB v n) = f v) (h4 : ∀ v t, f (turned v t) = f v) : f (clockV v) = f (clk1 v) := by
  unfold clockV
  split
  · exact h1 _
  · unfold tickV
    have hs : f (stepV (cycV (clk1 v))) = f (clk1 v) := by
      unfold stepV
      split
      · exact h1 _
      split
      · exact (h3 _ _).trans (h1 _)
      · exact (h4 _ _).trans ((h3 _ _).trans (h1 _))
    split
    · exact hs
    · exact (h2 _ _).trans hs
/-- a slope's register, gain and count: of the turns, or of the volume -/
def sl (t : Bool) (v : V) : Int × Int × Int := if t = true then (v.mreg, v.mgain, v.mn) else (v.vreg, v.vgain, v.vn)
theorem clockV_sl (t : Bool) (v : V) : (clockV v).reg = v.reg ∧ sl t (clockV v) = (if rd v.reg 3 < 64 then ((sl t v).1, clkS (sl t v).1 (sl t v).2.1 (sl t v).2.2 (rd v.reg 10)) else sl t v) := by
  have e := clockV_f (fun v => (v.reg, sl t v)) v (fun v => by cases t <;> rfl) (fun v n => by unfold addW; split <;> cases t <;> rfl) (fun v n => by unfold addB; split <;> cases t <;> rfl) (fun v n => by cases t <;> rfl)
  have e1 := congrArg Prod.fst e
  have e2 := congrArg Prod.snd e
  dsimp only at e1 e2
  refine ⟨e1.trans (clk1_reg v), e2.trans ?_⟩
  unfold clk1
  split
  · cases t <;> rfl
  · rfl
def per (r m : Int) : Int := 8 * (r % 64 + 1) * (m + 1)
def nextG (r G : Int) : Int := if r % 128 < 64 then G - min G 1 else if G < 32 then G + 1 else G
/-- the slope behind j cycles of a step that began with the gain G -/
def J (t : Bool) (q r m G j : Int) (v : V) : Prop :=
  rd v.reg 3 = q ∧ rd v.reg 10 = m ∧ (sl t v).1 = r ∧ (if q < 64 then (if j < per r m then (sl t v).2 = (G, j) else (sl t v).2 = (nextG r G, 0)) else (sl t v).2.1 = G)
theorem J.next {t : Bool} {q r m G j : Int} {v : V} (h : J t q r m G j v) (hr : r < 128) (hj : j < per r m) : J t q r m G (j + 1) (clockV v) := by
  obtain ⟨h1, h2, h3, h4⟩ := h
  obtain ⟨e1, e2⟩ := clockV_sl t v
  unfold J
  rw [e1, e2, h1]
  refine ⟨h1.symm ▸ rfl, h2, ?_, ?_⟩
  · split
    · exact h3
    · exact h3
  · by_cases hq : q < 64
    · rw [if_pos hq] at h4 ⊢
      rw [if_pos hj] at h4
      rw [if_pos hq, h3, h4, h2]
      dsimp only
      have e : clkS r G j m = if j + 1 < per r m then (G, j + 1) else (nextG r G, 0) := by
        unfold clkS nextG per
        rw [if_neg (show ¬ 128 ≤ r by omega)]
        by_cases c : j + 1 < 8 * (r % 64 + 1) * (m + 1)
        · rw [if_pos c, if_pos c]
        · rw [if_neg c, if_neg c]
          split
          · rfl
          split <;> rfl
      rw [e]
      split <;> rfl
    · rw [if_neg hq] at h4 ⊢
      rw [if_neg hq]
      exact h4
theorem per_pos {r m : Int} (hm : 0 ≤ m) : 0 < per r m := by
  unfold per
  have h1 : 0 < 8 * (r % 64 + 1) := by omega
  exact Int.mul_pos h1 (by omega)
theorem J.step {t : Bool} {q r m G j : Int} {v : V} (h : J t q r m G j v) (hm : 0 ≤ m) (hj : ¬ j < per r m) : J t q r m (if q < 64 then nextG r G else G) 0 v := by
  obtain ⟨h1, h2, h3, h4⟩ := h
  refine ⟨h1, h2, h3, ?_⟩
  by_cases hq : q < 64
  · rw [if_pos hq] at h4 ⊢
    rw [if_neg hj] at h4
    rw [if_pos (per_pos hm), if_pos hq]
    exact h4
  · rw [if_neg hq] at h4 ⊢
    rw [if_neg hq]
    exact h4
theorem J.gain {t : Bool} {q r m G : Int} {v : V} (h : J t q r m G 0 v) (hm : 0 ≤ m) : (sl t v).2.1 = G := by
  obtain ⟨h1, h2, h3, h4⟩ := h
  by_cases hq : q < 64
  · rw [if_pos hq, if_pos (per_pos hm)] at h4
    rw [h4]
  · rw [if_neg hq] at h4
    exact h4
def rg (t : Bool) : Int := if t = true then 16516 else 16512
def lk (t : Bool) : Int := if t = true then 16530 else 16528
theorem get_sl (t : Bool) (v : V) : getV v (lk t) = ((sl t v).2.1 + 64, true) := by
  cases t
  · rfl
  · rfl
def putS (t : Bool) (v : V) (b : Int) : V := if t = true then tur v b else vol v b
theorem put_sl (base : Nat) (g : Nat) (v : V) (W : World) (h : Is base W g v) (hw : Wf v) (hm : MS W) (t : Bool) (b : Int) (hb : U8 b) :
    Calls Tryd.prog 11 #[.pointer (some ⟨g, 0, none⟩), .int .u16 (rg t), .int .u8 b] W fun e W' => e = .returned (.tuple #[]) ∧ Is base W' g (putS t v b) ∧ Turn base W W' (One g) := by
  cases t
  · exact put_vol base g v W h hw hm b hb
  · exact put_tur base g v W h hw hm b hb
theorem putS_ok {v : V} (h : Okv v) (t : Bool) (b : Int) (hb : U8 b) : Okv (putS t v b) := by
  cases t
  · exact putV_ok h 16512 b hb
  · exact putV_ok h 16516 b hb
theorem putS_sl (t : Bool) (v : V) (b : Int) : sl t (putS t v b) = (b, (if 128 ≤ b then b % 64 else (sl t v).2.1), 0) := by
  cases t <;> rfl
theorem putS_reg (t : Bool) (v : V) (b : Int) : rd (putS t v b).reg 10 = rd v.reg 10 ∧ rd (putS t v b).reg 3 = rd v.reg 3 := by
  have e : ∀ (l : List Int) (i j : Nat), j < i → rd (l.set j b) (i : Int) = rd l i := by
    intro l i j h
    unfold rd
    rw [Int.toNat_natCast, List.getD_eq_getElem?_getD, List.getD_eq_getElem?_getD, List.getElem?_set_ne (by omega)]
  have e2 : ∀ (l : List Int) (i j : Nat), j ≠ i → rd (l.set j b) (i : Int) = rd l i := by
    intro l i j h
    unfold rd
    rw [Int.toNat_natCast, List.getD_eq_getElem?_getD, List.getD_eq_getElem?_getD, List.getElem?_set_ne h]
  cases t
  · exact ⟨e2 v.reg 10 0 (by decide), e2 v.reg 3 0 (by decide)⟩
  · exact ⟨e2 v.reg 10 4 (by decide), e2 v.reg 3 4 (by decide)⟩
theorem slopes_step (t : Bool) (q r m G : Int) (hG : 0 ≤ G ∧ G < 64) : 0 ≤ nextG r G ∧ nextG r G < 64 := by
  unfold nextG
  split
  · omega
  · split <;> omega
theorem or128s (x : Int) (h0 : 0 ≤ x) (h1 : x < 256) : 128 ≤ Go.bits .or .u8 128 x ∧ Go.bits .or .u8 128 x < 256 ∧ Go.bits .or .u8 128 x % 64 = x % 64 :=
  fin_u8 (fun x => 128 ≤ Go.bits .or .u8 128 x ∧ Go.bits .or .u8 128 x < 256 ∧ Go.bits .or .u8 128 x % 64 = x % 64) (by decide +kernel) x h0 h1
def bv (up : Bool) (s : Int) : Int := if up = true then s + 64 else s
theorem J_hig {t : Bool} {q r m G : Int} {v : V} (h : J t q r m G 0 v) (hm : 0 ≤ m) (hr : ∀ i, U8 (rd v.reg i)) (hl : v.reg.length = 11) (b : Int) (hb : 64 ≤ b) : J t b r m G 0 (hig v b) := by
  have e : rd (v.reg.set 3 b) 3 = b := by
    unfold rd
    rw [List.getD_eq_getElem?_getD, show (3 : Int).toNat = 3 from rfl, List.getElem?_set_self (by omega)]; rfl
  have e2 : rd (v.reg.set 3 b) 10 = rd v.reg 10 := by
    unfold rd
    rw [show (10 : Int).toNat = 10 from rfl, List.getD_eq_getElem?_getD, List.getD_eq_getElem?_getD, List.getElem?_set_ne (by decide)]
  have hg := h.gain hm
  obtain ⟨h1, h2, h3, h4⟩ := h
  have er : (hig v b).reg = v.reg.set 3 b := by unfold hig; split <;> rfl
  have es : sl t (hig v b) = sl t v := by unfold hig; split <;> cases t <;> rfl
  unfold J
  rw [er, es, e, e2]
  exact ⟨rfl, h2, h3, by rw [if_neg (by omega)]; exact hg⟩
theorem or64i_all : ((List.range 64).all fun a => decide (Go.bits .or .i64 (a : Int) 64 = (a : Int) + 64)) = true := by kernel_rfl
theorem or64i (x : Int) (h0 : 0 ≤ x) (h1 : x < 64) : Go.bits .or .i64 x 64 = x + 64 := by
  have h := of_decide_eq_true (List.all_eq_true.1 or64i_all x.toNat (List.mem_range.2 (by omega)))
  rwa [Int.toNat_of_nonneg h0] at h
set_option maxRecDepth 20000 in
set_option maxHeartbeats 8000000 in
theorem slopes_walk (a0 a1 a2 : Int) (up tr : Bool) (a5 : Int) (W : World) (hm : MS W) (hts : TS W) (hg : 0 < W.heap.size) (hg2 : 1 < W.heap.size) (u0 : U8 a0) (u1 : U8 a1) (u2 : U8 a2) (u5 : U8 a5) :
    Calls Tryd.prog 8 #[.int .u8 a0, .int .u8 a1, .int .u8 a2, .bool up, .bool tr, .int .u8 a5] W fun e W' => e = .returned (.bool true) ∧ Below W.heap.size W W' := by
  have HM := Aside0.mk hm
  have HGM := Aside0.mk hg
  have HTS := Aside0.mk (fun (W1 : World) (hb : Below W.heap.size W W1) => hts.below hb hg2)
  have HG2 := Aside0.mk hg2
  have m0 : a0.tmod 4 = a0 % 4 := Int.tmod_eq_emod_of_nonneg u0.1
  have m1 : a1.tmod 3 = a1 % 3 := Int.tmod_eq_emod_of_nonneg u1.1
  have m2 := and63 a2 u2.1 u2.2
  have m5 : a5.tmod 4 = a5 % 4 := Int.tmod_eq_emod_of_nonneg u5.1
  have d5 : a5.tdiv 4 = a5 / 4 := Int.tdiv_eq_ediv_of_nonneg u5.1
  have r5 : (a5 / 4).tmod 2 = a5 / 4 % 2 := Int.tmod_eq_emod_of_nonneg (by have := u5.1; omega)
  have hs : 0 ≤ a0 % 4 ∧ a0 % 4 < 4 := by omega
  have hmm : 0 ≤ a1 % 3 ∧ a1 % 3 < 3 := by omega
  have hb0 : 0 ≤ a2 % 64 ∧ a2 % 64 < 64 := by omega
  have hz : a5 / 4 % 2 = 0 ∨ a5 / 4 % 2 = 1 := by omega
  have HZ := Aside0.mk hz
  generalize a0 % 4 = s at *
  generalize a1 % 3 = m at *
  generalize a2 % 64 = G0 at *
  have hG := or128s G0 hb0.1 (by omega)
  have o2 : Go.bits .or .u8 s 64 = s + 64 := or64 s hs.1 (by omega)
  generalize hGe : Go.bits .or .u8 128 G0 = G at hG
  have HG := Aside0.mk hG
  have HS := Aside0.mk hs
  have HMM := Aside0.mk hmm
  have HB0 := Aside0.mk hb0
  have HUG := Aside0.mk (show U8 G from ⟨by omega, hG.2.1⟩)
  clear hm hts hg hg2 hG hs hmm hb0 hz u0 u1 u2 u5
  obtain ⟨ob, hob⟩ : ∃ ob : Bool, (a5 % 4 == 0) = ob := ⟨_, rfl⟩
  go_enter Tryd.func8, Tryd.ntmps8
  go_upto_if 30 with (go_at_call 9; refine (awake_calls W HM.out HGM.out).mono ?_; rintro e w1 ⟨rfl, hb⟩; have HB1 := Aside0.mk hb; clear hb)
  go_cut [13, 14] (fun v13 v14 wc => v13 = .int .u16 (rg tr) ∧ v14 = .int .u16 (lk tr) ∧ Aside0 (Below W.heap.size W wc))
  case first =>
    cases tr
    all_goals
      go_wp2
      go_meet
      case rel => exact ⟨rfl, rfl, HB1⟩
  case rest =>
    obtain ⟨rfl, rfl, HB1⟩ := hcut
    go_wp2_with fail
    refine (new_calls W.heap.size _ HB1.out.size).mono ?_
    rintro e w2 ⟨g, rfl, hi, hb, hg⟩
    have HI2 := Aside0.mk hi; have HB2 := Aside0.mk (HB1.out.trans (hb.mono HB1.out.size)); clear hi hb hg
    go_wp2_with fail
    refine (put_all W.heap.size g v0 _ HI2.out wf0 (HM.out.below HB2.out HGM.out) 16522 (by decide) (by decide) m ⟨by have := HMM.out; omega, by have := HMM.out; omega⟩).mono ?_
    rintro e w3 ⟨rfl, hi, ht⟩
    have ho3 := putV_ok okv0 16522 m ⟨by have := HMM.out; omega, by have := HMM.out; omega⟩
    have HI3 := Aside0.mk hi; have HB3 := Aside0.mk (HB2.out.trans ht.below); have HO3 := Aside0.mk ho3; clear hi ht ho3
    have e10 : rd (putV v0 16522 m).reg 10 = m := rfl
    have e3 : rd (putV v0 16522 m).reg 3 = 0 := rfl
    have esl : (sl tr (putV v0 16522 m)) = (0, 0, 0) := by cases tr <;> rfl
    generalize putV v0 16522 m = v3 at *
    go_wp2_with fail
    refine (put_sl W.heap.size g v3 _ HI3.out HO3.out.wf (HM.out.below HB3.out HGM.out) tr G HUG.out).mono ?_
    rintro e w4 ⟨rfl, hi, ht⟩
    have hr4 := putS_reg tr v3 G
    have hs4 := putS_sl tr v3 G
    rw [if_pos HG.out.1, HG.out.2.2, show G0 % 64 = G0 by have := HB0.out; omega] at hs4
    have HI4 := Aside0.mk hi; have HB4 := Aside0.mk (HB3.out.trans ht.below); have HO4 := Aside0.mk (putS_ok HO3.out tr G HUG.out); clear hi ht
    rw [e10, e3] at hr4
    have HR4 := Aside0.mk (And.intro hr4 hs4)
    clear e10 e3 esl hr4 hs4 HI3 HB3 HO3 HI2 HB2 HB1
    generalize putS tr v3 G = v4 at *
    go_upto_if 41 with fail
    go_cut [16] (fun v16 wc => v16 = .int .u8 (bv up s) ∧ Aside0 (Is W.heap.size wc g v4) ∧ Aside0 (Below W.heap.size W wc))
    case first =>
      cases up
      all_goals
        go_wp2
        go_meet
        case rel => exact ⟨rfl, HI4, HB4⟩
    case rest =>
      obtain ⟨rfl, HI5, HB5⟩ := hcut
      clear HI4 HB4
      have hbv : 0 ≤ bv up s ∧ bv up s < 128 ∧ bv up s % 64 = s ∧ (bv up s % 128 < 64 ↔ up = false) := by
        have := HS.out
        unfold bv
        cases up
        · simp only [Bool.false_eq_true, if_false, iff_true]; omega
        · simp only [if_true, Bool.true_eq_false, iff_false]; omega
      have hpr : per (bv up s) m = 8 * (s + 1) * (m + 1) := by unfold per; rw [hbv.2.2.1]
      generalize bv up s = r at *
      have HBV := Aside0.mk hbv
      have UR : U8 r := ⟨hbv.1, by omega⟩
      go_wp2_with fail
      refine (put_sl W.heap.size g v4 _ HI5.out HO4.out.wf (HM.out.below HB5.out HGM.out) tr r UR).mono ?_
      rintro e w6 ⟨rfl, hi, ht⟩
      have hr6 := putS_reg tr v4 r
      have hs6 := putS_sl tr v4 r
      rw [HR4.out.1.1, HR4.out.1.2] at hr6
      rw [if_neg (by omega), HR4.out.2] at hs6
      have HI6 := Aside0.mk hi; have HB6 := Aside0.mk (HB5.out.trans ht.below); have HO6 := Aside0.mk (putS_ok HO4.out tr r UR); clear hi ht
      have HJ6 := Aside0.mk (show J tr 0 r m G0 0 (putS tr v4 r) from ⟨hr6.2, hr6.1, by rw [hs6], by rw [if_pos (by decide), if_pos (per_pos HMM.out.1), hs6]⟩)
      clear hr6 hs6 HR4 HI5 HB5 HO4 hbv UR
      generalize putS tr v4 r = v6 at *
      go_upto_if 51 with fail
      go_cut [] (fun wc => ∃ (v : V) (q : Int), Aside0 (Is W.heap.size wc g v ∧ Okv v ∧ J tr q r m G0 0 v) ∧ Aside0 ((ob = true → ¬ q < 64) ∧ (ob = false → q < 64)) ∧ Aside0 (Below W.heap.size W wc))
      case first =>
        cases ob
        · go_wp2
          go_meet
          case rel => exact ⟨v6, 0, ⟨HI6.out, HO6.out, HJ6.out⟩, ⟨fun h => (by cases h), fun _ => by decide⟩, HB6⟩
        · go_wp2_with fail
          generalize hbb : (64 * 2 ^ (a5 / 4 % 2).toNat % 256 : Int) = b
          have hb2 : b = 64 ∨ b = 128 := by
            rw [← hbb]
            rcases HZ.out with hz | hz <;> rw [hz] <;> decide
          have ub : U8 b := ⟨by omega, by omega⟩
          refine (put_hig W.heap.size g v6 _ HI6.out HO6.out.wf (HM.out.below HB6.out HGM.out) b ub).mono ?_
          rintro e w7 ⟨rfl, hi, ht⟩
          have HI7 := Aside0.mk hi; have HB7 := Aside0.mk (HB6.out.trans ht.below); clear hi ht
          have HJ7 := Aside0.mk (J_hig HJ6.out HMM.out.1 (HO6.out.wf.reg) HI6.out.lr b (by omega))
          have HO7 := Aside0.mk (putV_ok HO6.out 16515 b ub)
          have hnb : ¬ b < 64 := by omega
          have HNB := Aside0.mk hnb
          clear hbb hb2 ub hnb
          go_wp2
          go_meet
          case rel => exact ⟨hig v6 b, b, ⟨HI7.out, HO7.out, HJ7.out⟩, ⟨fun _ => HNB.out, fun h => (by cases h)⟩, HB7⟩
      case rest =>
        obtain ⟨v7, q, HV7, HQ, HB7⟩ := hcut
        clear HI6 HB6 HO6 HJ6
        have wG : wrap64 G0 = G0 := wr64 (by have := HB0.out; omega) (by have := HB0.out; omega)
        have wS : wrap64 s = s := wr64 (by have := HS.out; omega) (by have := HS.out; omega)
        have wS1 : wrap64 (s + 1) = s + 1 := wr64 (by have := HS.out; omega) (by have := HS.out; omega)
        have w8 : wrap64 (8 * (s + 1)) = 8 * (s + 1) := wr64 (by have := HS.out; omega) (by have := HS.out; omega)
        have wM : wrap64 m = m := wr64 (by have := HMM.out; omega) (by have := HMM.out; omega)
        have wM1 : wrap64 (m + 1) = m + 1 := wr64 (by have := HMM.out; omega) (by have := HMM.out; omega)
        have hP1 : 8 * (s + 1) * (m + 1) ≤ 32 * 3 := Int.mul_le_mul (by have := HS.out; omega) (by have := HMM.out; omega) (by have := HMM.out; omega) (by decide)
        have hP0 : 0 < 8 * (s + 1) * (m + 1) := by rw [← hpr]; exact per_pos HMM.out.1
        obtain ⟨P, hPe⟩ : ∃ P, P = 8 * (s + 1) * (m + 1) := ⟨_, rfl⟩
        have wP : wrap64 (8 * (s + 1) * (m + 1)) = P := by rw [wr64 (by omega) (by omega)]; exact hPe.symm
        rw [← hPe] at hpr hP0 hP1
        have HP := Aside0.mk (And.intro hpr (And.intro hP0 hP1))
        clear hPe
        clear hpr hP0 hP1
        go_wp2_with fail
        go_loopg [18, 68] 40 (fun kq v18 v68 w' => ∃ (k Gc : Int) (v : V), v18 = .int .i64 Gc ∧ v68 = .int .i64 k ∧ Aside0 (Is W.heap.size w' g v ∧ Okv v ∧ J tr q r m Gc 0 v) ∧ Aside0 ((0 ≤ Gc ∧ Gc < 64) ∧ k + kq = 40 ∧ 0 ≤ k) ∧ Aside0 (Below W.heap.size W w'))
        case atStart => exact ⟨0, G0, v7, rfl, rfl, HV7, ⟨HB0.out, by decide, by decide⟩, HB7⟩
        case round =>
          obtain ⟨k, Gc, v, rfl, rfl, HV, HK, HB⟩ := hrel
          by_cases hlt : k < 40
          · have d1 : decide (k < 40) = true := decide_eq_true hlt
            have HL := Aside0.mk hlt
            have HGT := Aside0.mk (get_calls W.heap.size g v wr HV.out.1 HV.out.2.1.wf (lk tr) (by unfold lk; split <;> decide) (by unfold lk; split <;> decide))
            rw [get_sl, HV.out.2.2.gain HMM.out.1] at HGT
            have o64 := or64i Gc HK.out.1.1 HK.out.1.2
            have wg : wrap64 (Gc + 64) = Gc + 64 := wr64 (by have := HK.out; omega) (by have := HK.out; omega)
            have wk : wrap64 (k + 1) = k + 1 := wr64 (by have := HK.out; omega) (by have := HK.out; omega)
            clear hlt
            go_wp2_with (go_at_call 13; refine HGT.out.mono ?_; rintro e w8 ⟨rfl, rfl⟩)
            rw [wg]
            go_loopg [86] P.toNat (fun kq v86 w' => ∃ (j : Int) (v : V), v86 = .int .i64 j ∧ Aside0 (Is W.heap.size w' g v ∧ Okv v ∧ J tr q r m Gc j v) ∧ Aside0 (j + kq = P ∧ 0 ≤ j) ∧ Aside0 (Below W.heap.size W w'))
            case atStart => exact ⟨0, v, rfl, HV, ⟨by have := HP.out; omega, by decide⟩, HB⟩
            case round =>
              clear HV HB HGT
              obtain ⟨j, v, rfl, HV, HJK, HB⟩ := hrel
              by_cases hj : j < P
              · have d2 : decide (j < P) = true := decide_eq_true hj
                have wj : wrap64 (j + 1) = j + 1 := wr64 (by have := HJK.out; omega) (by have := HJK.out; have := HP.out; omega)
                have HCL := Aside0.mk (clock_calls W.heap.size g v wr HV.out.1 HV.out.2.1 (HTS.out _ HB.out) HG2.out)
                have HJN := Aside0.mk (show Okv (clockV v) ∧ J tr q r m Gc (j + 1) (clockV v) from ⟨clockV_ok HV.out.2.1, HV.out.2.2.next (by have := HBV.out; omega) (by rw [HP.out.1]; exact hj)⟩)
                have HJ2 := Aside0.mk hj
                clear hj
                go_wp2_with fail
                refine HCL.out.mono ?_
                rintro e w9 ⟨rfl, hi, ht⟩
                have HI9 := Aside0.mk hi; have HB9 := Aside0.mk (HB.out.trans ht.below); clear hi ht
                go_wp2
                go_roundg (gk - 1)
                case measure => have := HJK.out; have := HJ2.out; omega
                case rel =>
                  have := HJK.out
                  have := HJ2.out
                  exact ⟨j + 1, _, by first | rfl | (congr 1), ⟨HI9.out, HJN.out.1, HJN.out.2⟩, ⟨by omega, by omega⟩, HB9⟩
              · have d2 : decide (j < P) = false := decide_eq_false hj
                have HJN := Aside0.mk (HV.out.2.2.step HMM.out.1 (by rw [HP.out.1]; exact hj))
                clear hj
                cases ob
                · have hq : q < 64 := HQ.out.2 rfl
                  rw [if_pos hq] at HJN
                  clear hq
                  have HNG := Aside0.mk (slopes_step tr q r m Gc HK.out.1)
                  by_cases c1 : up = true
                  · have en : nextG r Gc = if Gc < 32 then Gc + 1 else Gc := by
                      unfold nextG
                      rw [if_neg (fun h => by have := HBV.out.2.2.2.1 h; rw [c1] at this; cases this)]
                    rw [en] at HJN HNG
                    subst c1
                    clear en
                    by_cases c2 : Gc < 32
                    · rw [if_pos c2] at HJN HNG
                      have k2 : decide (Gc < 32) = true := decide_eq_true c2
                      have wn : wrap64 (Gc + 1) = Gc + 1 := wr64 (by have := HK.out; omega) (by have := HK.out; omega)
                      clear c2
                      go_wp2
                      go_roundg ((39 - k).toNat)
                      case measure => have := HK.out; have := HL.out; omega
                      case rel =>
                        have := HK.out
                        have := HL.out
                        exact ⟨k + 1, Gc + 1, v, by first | rfl | (congr 1), by first | rfl | (congr 1), ⟨HV.out.1, HV.out.2.1, HJN.out⟩, ⟨HNG.out, by omega, by omega⟩, HB⟩
                    · rw [if_neg c2] at HJN HNG
                      have k2 : decide (Gc < 32) = false := decide_eq_false c2
                      clear c2
                      go_wp2
                      go_roundg ((39 - k).toNat)
                      case measure => have := HK.out; have := HL.out; omega
                      case rel =>
                        have := HK.out
                        have := HL.out
                        exact ⟨k + 1, Gc, v, by first | rfl | (congr 1), by first | rfl | (congr 1), ⟨HV.out.1, HV.out.2.1, HJN.out⟩, ⟨HNG.out, by omega, by omega⟩, HB⟩
                  · have c1' := Bool.eq_false_iff.2 c1
                    have en : nextG r Gc = if 0 < Gc then Gc - 1 else Gc := by
                      unfold nextG
                      rw [if_pos (HBV.out.2.2.2.2 c1')]
                      have := HK.out
                      split <;> omega
                    rw [en] at HJN HNG
                    clear en c1
                    subst c1'
                    by_cases c2 : 0 < Gc
                    · rw [if_pos c2] at HJN HNG
                      have k2 : decide (0 < Gc) = true := decide_eq_true c2
                      have wn : wrap64 (Gc - 1) = Gc - 1 := wr64 (by have := HK.out; omega) (by have := HK.out; omega)
                      clear c2
                      go_wp2
                      go_roundg ((39 - k).toNat)
                      case measure => have := HK.out; have := HL.out; omega
                      case rel =>
                        have := HK.out
                        have := HL.out
                        exact ⟨k + 1, Gc - 1, v, by first | rfl | (congr 1), by first | rfl | (congr 1), ⟨HV.out.1, HV.out.2.1, HJN.out⟩, ⟨HNG.out, by omega, by omega⟩, HB⟩
                    · rw [if_neg c2] at HJN HNG
                      have k2 : decide (0 < Gc) = false := decide_eq_false c2
                      clear c2
                      go_wp2
                      go_roundg ((39 - k).toNat)
                      case measure => have := HK.out; have := HL.out; omega
                      case rel =>
                        have := HK.out
                        have := HL.out
                        exact ⟨k + 1, Gc, v, by first | rfl | (congr 1), by first | rfl | (congr 1), ⟨HV.out.1, HV.out.2.1, HJN.out⟩, ⟨HNG.out, by omega, by omega⟩, HB⟩
                · have hq : ¬ q < 64 := by have := HQ.out.1 rfl; omega
                  rw [if_neg hq] at HJN
                  clear hq
                  go_wp2
                  go_roundg ((39 - k).toNat)
                  case measure => have := HK.out; have := HL.out; omega
                  case rel =>
                    have := HK.out
                    have := HL.out
                    exact ⟨k + 1, Gc, v, by first | rfl | (congr 1), by first | rfl | (congr 1), ⟨HV.out.1, HV.out.2.1, HJN.out⟩, ⟨HK.out.1, by omega, by omega⟩, HB⟩
          · have d1 : decide (k < 40) = false := decide_eq_false hlt
            clear hlt
            go_wp2
            go_ret
            exact ⟨rfl, HB.out⟩
end Go.Proofs.YtkmdhpmgbcdlmaaDoor.Wave
