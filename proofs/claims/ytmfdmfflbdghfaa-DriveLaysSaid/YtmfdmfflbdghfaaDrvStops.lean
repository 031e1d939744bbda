/-
  WHILE THE MOTOR IS OFF, OR THERE IS NO SIDE, NOTHING PASSES: the law's walk. By the prover of this repo.
-/
import Derived.Test.YtmfdmfflbdghfaaDrvTimes
namespace Go.Proofs.Ytmfdmfflbdghfaa.Drive
open Go.RowKit Go.Proofs.Ytmfdmfflbdghfaa.PDriveLays Go.Proofs.YtmfdmfflbdghfaaW.PrintWords Go.Proofs.YtmfdmfflbdghfaaW.PrintLast Go.Proofs.YtmfdmfflbdghfaaW.PrintMore
set_option linter.unusedVariables false
set_option linter.unusedSimpArgs false
theorem R_one (W : World) (b : Int) (base : Nat) (hb : base ≤ W.heap.size) : (Kd.int .u8).R 5 (W.alloc (.cells #[.int .u8 b] 5 (0, 0))) base (fun _ => True) (.slice (some ⟨W.heap.size, 0, none⟩) 1 1) [b] :=
  Kd.R_of_own (xs := [b]) (own_lit W base 5 .u8 [b] hb (show 1 ≤ 9223372036854775807 by decide)) (fun _ _ => trivial)
theorem small_take {l : List Int} (n : Nat) : (l.take n).length ≤ n := by rw [List.length_take]; omega
/-- nothing moves -/
def Off (d : Drv.D) : Prop := (d.motor = false ∨ d.side = []) ∧ Fit d
theorem Off.clk {d : Drv.D} (h : Off d) : Drv.clk d = ({ d with passed := -1, laid := false }, false) := by unfold Drv.clk; rw [if_pos h.1]
theorem Off.ready {d : Drv.D} (h : Off d) : readyB d = false := by
  unfold readyB hasB
  rcases h.1 with h | h <;> simp [h]
theorem Off.at_ {d : Drv.D} (h : Off d) : atI d = 0 := by unfold atI; rw [h.ready]; rfl
theorem passes_first (n t : Int) (hn : 1 ≤ n) (h0 : 0 ≤ t) (h1 : t < 4148) : Drv.passes n t = false := by
  unfold Drv.passes; rw [Int.emod_eq_of_lt (by omega) (by omega)]; simp; omega
theorem passes_at (n : Int) (hn : 1 ≤ n) : Drv.passes n 4148 = true := by
  unfold Drv.passes; rw [Int.emod_eq_of_lt (by omega) (by omega)]; decide
theorem which_at (n : Int) (hn : 1 ≤ n) : Drv.which n 4148 = 0 := by
  unfold Drv.which; rw [Int.emod_eq_of_lt (by omega) (by omega)]; decide
def KindE (d : Drv.D) : Prop := d.motor = true ∧ d.side = []
def KindM (p : List Int) (d : Drv.D) : Prop := d.motor = false ∧ d.side = p
set_option maxHeartbeats 2000000 in
theorem stops_walk (A : Option Addr) (l : List Int) (c : Nat) (n : Int) (ej : Bool) (W : World) (hC : (Kd.int .u8).C W A l.length l) (hc : l.length ≤ c) (hy : l.length * 1 ≤ 140737488351232) (hw : ∀ x ∈ l, (Lit.int .u8 x).wf = true) (hn : (Lit.int .u16 n).wf = true) :
    Calls Try.prog 5 #[.slice A l.length c, .int .u16 n, .bool ej] W fun e W' => e = .returned (.bool true) ∧ Below W.heap.size W W' := by
  have HCUT := Aside0.mk (fun (W1 : World) (hb : Below W.heap.size W W1) => cut_calls A c l 12 W1 (by decide) (Kd.C_below hC hb) hc hy)
  have hn0 : 0 ≤ n ∧ n < 65536 := by simp [Lit.wf, IntKind.min, IntKind.max, IntKind.signed, IntKind.bits] at hn; omega
  obtain ⟨N, hN, hN1⟩ : ∃ N : Nat, n.tmod 6000 = (N : Int) ∧ N < 6000 := ⟨(n % 6000).toNat, by rw [Int.tmod_eq_emod_of_nonneg hn0.1, Int.toNat_of_nonneg (by omega)], by omega⟩
  have HP20 := Aside0.mk (small_take (l := l) 12)
  generalize l.take 12 = p0 at HCUT HP20
  clear hC hc hy hw hn
  generalize l.length = n0 at *
  obtain ⟨hn0a, hn0b⟩ := hn0
  go_enter Try.func5, Try.ntmps5
  go_wp2_with (first
    | (go_at_call 8; refine (awake_calls _).mono ?_; rintro e w1 ⟨rfl, hb⟩; have HB1 := Aside0.mk hb; clear hb)
    | (go_at_call 9; refine (HCUT.out _ (below_alloc HB1.out _)).mono ?_; rintro e w2 ⟨v, rfl, hR, hb⟩; have HO := Aside0.mk (Kd.R_below (R_one w1 9 w1.heap.size (Nat.le_refl _)) hb); have HB2 := Aside0.mk (below_step (below_alloc (Below.refl _ _) _) hb); obtain ⟨A1, c1, rfl, hc1, hC1⟩ := Kd.R_reads hR; have HV := Aside0.mk (And.intro hc1 hC1); clear hb hR hc1 hC1)
    | ((with_reducible refine gate_builtin (b := .append) (xs := #[.tmp 11, .tmp 13]) rfl ?_); at_builtin; refine Kd.R_append_rows (Kd.int .u8) (w0 := w1) w1.heap.size rfl (.tmp 11) (.tmp 13) 22 5 (.int .u8 0) 1 rfl Try.underlying22 info5 rfl (by decide) (by omega) _ [9] p0 _ _ _ (fun _ => True) (fun _ => False) rfl rfl HO.out HV.out.2 (fun _ _ h => h) (fun _ h => h.elim) (fun _ _ => trivial) HB2.out HB2.out.size (by have := HP20.out; simp; omega) ?_; intro v3 w3 ho hb hg hat; have HB3 := Aside0.mk hb; have HR3 := Aside0.mk ho; clear ho hb hg hat))
  obtain ⟨A3, c3, rfl, hc3, hC3⟩ := Kd.R_reads HR3.out
  have HP3 := Aside0.mk (And.intro hc3 (And.intro hC3 (And.intro (show ([9] ++ p0 : List Int) ≠ [] by simp) (show ([9] ++ p0 : List Int).length ≤ 13 by have := HP20.out; simp; omega))))
  have HG9 : Aside0 (rd ([9] ++ p0) 0 = 9) := ⟨rfl⟩
  have HL1 : Aside0 (1 ≤ (([9] ++ p0 : List Int).length : Int)) := ⟨by simp; omega⟩
  clear hc3 hC3 HR3
  generalize ([9] ++ p0 : List Int) = p at *
  have HBW := Aside0.mk (below_step HB1.out HB3.out)
  have hNN := Aside0.mk hN1
  clear HB1 HB2 HB3 hN1
  go_wp2_with (first
    | (go_at_call 10; refine (new_calls w3.heap.size w3 (Nat.le_refl _)).mono ?_; rintro e w4 ⟨g, rfl, hi, hb, hg⟩; have HI := Aside0.mk hi; have HV4 := Aside0.mk (Kd.C_below HP3.out.2.1 hb); have HB4 := Aside0.mk hb; clear hi hb hg)
    | (go_at_call 11; refine (insert_yes w3.heap.size g _ _ A3 c3 p _ HI.out rfl (by have := HL1.out; omega) (by have := HP3.out.2.2.2; omega) HP3.out.1 HV4.out HB4.out.size).mono ?_; rintro e w5 ⟨rfl, v1, hi, hg1, ht⟩; have HI5 := Aside0.mk hi; have HB5 := Aside0.mk (HB4.out.trans ht.below); clear hi hg1 ht)
    | (go_at_call 12; refine (motor_calls w3.heap.size g v1 _ true _ HI5.out).mono ?_; rintro e w6 ⟨rfl, hi, ht⟩; have HI6 := Aside0.mk (show Is w3.heap.size w6 g v1 (starts p) from hi); have HB6 := Aside0.mk (HB5.out.trans ht.below); clear hi ht))
  go_loopg [23] N (fun kq v23 w' => ∃ (j : Int) (d : Drv.D), v23 = .int .u16 j ∧ Aside0 (Is w3.heap.size w' g v1 d ∧ Runs d p j ∧ j + kq = N ∧ 0 ≤ j) ∧ Aside0 (Below w3.heap.size w3 w'))
  case atStart => exact ⟨0, _, rfl, ⟨HI6.out, Runs.of_back (d := starts p) rfl HP3.out.2.2.1, by omega, by decide⟩, HB6⟩
  case round =>
    obtain ⟨j, d, rfl, HR, HB⟩ := hrel
    obtain ⟨hi, hrun, hk, hj⟩ := HR.out
    have hN1 := hNN.out
    by_cases hlt : j < N
    · have d1 : decide (j < (N : Int)) = true := decide_eq_true hlt
      have hj1 : j + 1 < 65536 := by omega
      have HC := Aside0.mk (clock_runs w3.heap.size g v1 d p j _ hi hrun _ rfl)
      have HN := Aside0.mk (And.intro hrun.next.1 (And.intro hk hlt))
      clear HR hi hrun hk hlt hN1
      go_wp2_with (go_at_call 13; refine HC.out.mono ?_; rintro e w7 ⟨rfl, hi, ht⟩; have HI7 := Aside0.mk hi; have HB7 := Aside0.mk (HB.out.trans ht.below); clear hi ht)
      go_roundg (gk - 1)
      case measure => have := HN.out.2; omega
      case rel =>
        have := HN.out.2
        exact ⟨j + 1, _, rfl, ⟨HI7.out, HN.out.1, by omega, by omega⟩, HB7⟩
    · have d1 : decide (j < (N : Int)) = false := decide_eq_false hlt
      clear HR hk hlt hN1 hj
      have HII := Aside0.mk hi
      have HRU := Aside0.mk hrun
      clear hi hrun
      cases ej
      · go_wp2_with (go_at_call 12; refine (motor_calls w3.heap.size g v1 d false _ HII.out).mono ?_; rintro e w8 ⟨rfl, hi, ht⟩; rw [if_neg (show ¬ d.motor = false by rw [HRU.out.1]; decide)] at hi; have HI8 := Aside0.mk hi; have HB8 := Aside0.mk (HB.out.trans ht.below); clear hi ht)
        have HK0 : Aside0 (KindM p (back { d with motor := false })) := ⟨rfl, HRU.out.2.1⟩
        go_loopg [33] 300 (fun kq v33 w' => ∃ (i : Int) (d : Drv.D), v33 = .int .i64 i ∧ Aside0 (Is w3.heap.size w' g v1 d ∧ ((KindM p) d ∧ Fit d) ∧ i + kq = 300 ∧ 0 ≤ i) ∧ Aside0 (Below w3.heap.size w3 w'))
        case atStart => exact ⟨0, _, rfl, ⟨HI8.out, ⟨HK0.out, by unfold Fit back; simp⟩, by decide, by decide⟩, HB8⟩
        case round =>
          obtain ⟨i, d', rfl, HR, HB'⟩ := hrel
          obtain ⟨hi, ⟨hm, hf⟩, hk, hi0⟩ := HR.out
          have HOFF := Aside0.mk (show Off d' from ⟨(.inl hm.1), hf⟩)
          by_cases hlt : i < 300
          · have d2 : decide (i < 300) = true := decide_eq_true hlt
            have HC := clock_calls w3.heap.size g v1 d' _ hi hf
            rw [HOFF.out.clk] at HC
            replace HC := Aside0.mk HC
            have HOF2 := Aside0.mk (show Off { d' with passed := -1, laid := false } from ⟨(.inl hm.1), hf⟩)
            have HN := Aside0.mk (And.intro hm (And.intro hf (And.intro hk hlt)))
            have i1 : i + 1 ≤ 300 := by omega
            clear HR hi hm hf hk hlt
            go_wp2_with (first
              | (go_at_call 13; refine HC.out.mono ?_; rintro e w9 ⟨rfl, hi, ht⟩; have HI9 := Aside0.mk hi; have HB9 := Aside0.mk (HB'.out.trans ht.below); clear hi ht)
              | (go_at_call 15; refine (ready_calls w3.heap.size g _ _ _ HI9.out).mono ?_; rintro e w10 ⟨rfl, rfl⟩; rw [HOF2.out.ready])
              | (go_at_call 20; refine (lay_none w3.heap.size g _ _ 1 _ HI9.out (.inl rfl)).mono ?_; rintro e w10 ⟨rfl, rfl⟩)
              | (go_at_call 21; refine (at_calls w3.heap.size g _ _ _ HI9.out).mono ?_; rintro e w10 ⟨rfl, rfl⟩; rw [HOF2.out.at_]))
            go_roundg (gk - 1)
            case measure => have := HN.out.2.2; omega
            case rel =>
              have := HN.out.2.2
              exact ⟨i + 1, _, rfl, ⟨HI9.out, ⟨HN.out.1, HN.out.2.1⟩, by omega, by omega⟩, HB9⟩
          · have d2 : decide (i < 300) = false := decide_eq_false hlt
            have HII' := Aside0.mk hi
            have HMS := Aside0.mk hm
            clear HR hi hm hf hk hlt hi0
            go_wp2_with (go_at_call 12; refine (motor_calls w3.heap.size g v1 _ true _ HII'.out).mono ?_; rintro e w10 ⟨rfl, hi, ht⟩; rw [if_neg (show ¬ d'.motor = true by rw [HMS.out.1]; decide)] at hi; have HI10 := Aside0.mk hi; have HB10 := Aside0.mk (HB'.out.trans ht.below); clear hi ht)
            have HRUN := Aside0.mk (show Runs (back { d' with motor := true }) p 0 from HMS.out.2 ▸ Runs.of_back (d := { d' with motor := true }) rfl (show d'.side ≠ [] by rw [HMS.out.2]; exact HP3.out.2.2.1))
            go_loopg [8] 4148 (fun kq v8 w' => ∃ (t : Int) (d : Drv.D), v8 = .int .i64 (t + 1) ∧ Aside0 (Is w3.heap.size w' g v1 d ∧ Runs d p t ∧ t + kq = 4148 ∧ 0 ≤ t) ∧ Aside0 (Below w3.heap.size w3 w'))
            case atStart => exact ⟨0, _, rfl, ⟨HI10.out, HRUN.out, by decide, by decide⟩, HB10⟩
            case round =>
              obtain ⟨t, dd, rfl, HR, HBL⟩ := hrel
              obtain ⟨hi, hr, hk, hj⟩ := HR.out
              have hL1 := HL1.out
              by_cases hlt : t < 4148
              · have HC := Aside0.mk (clock_runs w3.heap.size g v1 dd p t _ hi hr false (passes_first _ t hL1 hj hlt))
                have g1 : decide (t + 1 < 6000) = true := decide_eq_true (by omega)
                have g2 : decide (t < 5999) = true := decide_eq_true (by omega)
                have HN := Aside0.mk (And.intro hr.next.1 (And.intro hk (And.intro hj hlt)))
                have b0 := hj
                have b1 : t + 1 ≤ 5000 := by omega
                clear HR hi hr hk hj hlt
                go_wp2_with (go_at_call 13; refine HC.out.mono ?_; rintro e w14 ⟨rfl, hi, ht⟩; have HI14 := Aside0.mk hi; have HB14 := Aside0.mk (HBL.out.trans ht.below); clear hi ht)
                go_roundg (gk - 1)
                case measure => have := HN.out; omega
                case rel =>
                  have := HN.out
                  exact ⟨t + 1, _, rfl, ⟨HI14.out, HN.out.1, by omega, by omega⟩, HB14⟩
              · have hj8 : t = 4148 := by omega
                subst hj8
                have HC := Aside0.mk (clock_runs w3.heap.size g v1 dd p 4148 _ hi hr true (passes_at _ hL1))
                have hn := hr.next
                have hpass : (Drv.clk dd).1.passed = 0 := by rw [hn.2.2.1, if_pos (passes_at _ hL1), which_at _ hL1]
                have hside : (Drv.clk dd).1.side = p := hn.1.2.1
                have HP := Aside0.mk (And.intro hpass hside)
                clear HR hi hr hk hj hlt hn hpass hside
                go_wp2_with (go_at_call 13; refine HC.out.mono ?_; rintro e w14 ⟨rfl, hi, ht⟩; have HI14 := Aside0.mk hi; have HB14 := Aside0.mk (HBL.out.trans ht.below); clear hi ht)
                have HG := Aside0.mk (get_calls w3.heap.size g v1 _ _ HI14.out (.inr (by rw [HP.out.1, HP.out.2]; omega)))
                have hget : getI (Drv.clk dd).1 = 9 := by unfold getI; rw [if_neg (by rw [HP.out.1]; decide), HP.out.1, HP.out.2]; exact HG9.out
                rw [hget] at HG
                clear hget
                go_wp2_with (go_at_call 14; refine HG.out.mono ?_; rintro e w15 ⟨rfl, n15, rfl⟩)
                go_ret
                exact ⟨rfl, below_step HBW.out (pw_below_drewN HB14.out n15)⟩
      · go_wp2_with (go_at_call 18; refine (eject_calls w3.heap.size g v1 d _ HII.out).mono ?_; rintro e w8 ⟨rfl, hi, hR8, ht⟩; have HI8 := Aside0.mk hi; have HB8 := Aside0.mk (HB.out.trans ht.below); clear hi ht hR8)
        have HK0 : Aside0 (KindE (back { d with side := [], passed := -1 })) := ⟨HRU.out.1, rfl⟩
        go_loopg [33] 300 (fun kq v33 w' => ∃ (i : Int) (d : Drv.D), v33 = .int .i64 i ∧ Aside0 (Is w3.heap.size w' g (.slice none 0 0) d ∧ (KindE d ∧ Fit d) ∧ i + kq = 300 ∧ 0 ≤ i) ∧ Aside0 (Below w3.heap.size w3 w'))
        case atStart => exact ⟨0, _, rfl, ⟨HI8.out, ⟨HK0.out, by unfold Fit back; simp⟩, by decide, by decide⟩, HB8⟩
        case round =>
          obtain ⟨i, d', rfl, HR, HB'⟩ := hrel
          obtain ⟨hi, ⟨hm, hf⟩, hk, hi0⟩ := HR.out
          have HOFF := Aside0.mk (show Off d' from ⟨(.inr hm.2), hf⟩)
          by_cases hlt : i < 300
          · have d2 : decide (i < 300) = true := decide_eq_true hlt
            have HC := clock_calls w3.heap.size g (.slice none 0 0) d' _ hi hf
            rw [HOFF.out.clk] at HC
            replace HC := Aside0.mk HC
            have HOF2 := Aside0.mk (show Off { d' with passed := -1, laid := false } from ⟨(.inr hm.2), hf⟩)
            have HN := Aside0.mk (And.intro hm (And.intro hf (And.intro hk hlt)))
            have i1 : i + 1 ≤ 300 := by omega
            clear HR hi hm hf hk hlt
            go_wp2_with (first
              | (go_at_call 13; refine HC.out.mono ?_; rintro e w9 ⟨rfl, hi, ht⟩; have HI9 := Aside0.mk hi; have HB9 := Aside0.mk (HB'.out.trans ht.below); clear hi ht)
              | (go_at_call 15; refine (ready_calls w3.heap.size g _ _ _ HI9.out).mono ?_; rintro e w10 ⟨rfl, rfl⟩; rw [HOF2.out.ready])
              | (go_at_call 20; refine (lay_none w3.heap.size g _ _ 1 _ HI9.out (.inl rfl)).mono ?_; rintro e w10 ⟨rfl, rfl⟩)
              | (go_at_call 21; refine (at_calls w3.heap.size g _ _ _ HI9.out).mono ?_; rintro e w10 ⟨rfl, rfl⟩; rw [HOF2.out.at_]))
            go_roundg (gk - 1)
            case measure => have := HN.out.2.2; omega
            case rel =>
              have := HN.out.2.2
              exact ⟨i + 1, _, rfl, ⟨HI9.out, ⟨HN.out.1, HN.out.2.1⟩, by omega, by omega⟩, HB9⟩
          · have d2 : decide (i < 300) = false := decide_eq_false hlt
            have HII' := Aside0.mk hi
            have HMS := Aside0.mk hm
            clear HR hi hm hf hk hlt hi0
            go_wp2_with (first
              | (go_at_call 11; refine (insert_yes w3.heap.size g _ d' A3 c3 p _ HII'.out HMS.out.2 (by have := HL1.out; omega) (by have := HP3.out.2.2.2; omega) HP3.out.1 (Kd.C_below HP3.out.2.1 HB'.out) HB'.out.size).mono ?_; rintro e w9 ⟨rfl, v2, hi, hg1, ht⟩; have HI9 := Aside0.mk hi; have HB9 := Aside0.mk (HB'.out.trans ht.below); clear hi hg1 ht)
              | (go_at_call 12; refine (motor_calls w3.heap.size g v2 _ true _ HI9.out).mono ?_; rintro e w10 ⟨rfl, hi, ht⟩; rw [if_pos (show (back { d' with side := p }).motor = true from HMS.out.1)] at hi; have HI10 := Aside0.mk hi; have HB10 := Aside0.mk (HB9.out.trans ht.below); clear hi ht))
            have HRUN := Aside0.mk (show Runs (back { d' with side := p }) p 0 from Runs.of_back (d := { d' with side := p }) HMS.out.1 HP3.out.2.2.1)
            go_loopg [8] 4148 (fun kq v8 w' => ∃ (t : Int) (d : Drv.D), v8 = .int .i64 (t + 1) ∧ Aside0 (Is w3.heap.size w' g v2 d ∧ Runs d p t ∧ t + kq = 4148 ∧ 0 ≤ t) ∧ Aside0 (Below w3.heap.size w3 w'))
            case atStart => exact ⟨0, _, rfl, ⟨HI10.out, HRUN.out, by decide, by decide⟩, HB10⟩
            case round =>
              obtain ⟨t, dd, rfl, HR, HBL⟩ := hrel
              obtain ⟨hi, hr, hk, hj⟩ := HR.out
              have hL1 := HL1.out
              by_cases hlt : t < 4148
              · have HC := Aside0.mk (clock_runs w3.heap.size g v2 dd p t _ hi hr false (passes_first _ t hL1 hj hlt))
                have g1 : decide (t + 1 < 6000) = true := decide_eq_true (by omega)
                have g2 : decide (t < 5999) = true := decide_eq_true (by omega)
                have HN := Aside0.mk (And.intro hr.next.1 (And.intro hk (And.intro hj hlt)))
                have b0 := hj
                have b1 : t + 1 ≤ 5000 := by omega
                clear HR hi hr hk hj hlt
                go_wp2_with (go_at_call 13; refine HC.out.mono ?_; rintro e w14 ⟨rfl, hi, ht⟩; have HI14 := Aside0.mk hi; have HB14 := Aside0.mk (HBL.out.trans ht.below); clear hi ht)
                go_roundg (gk - 1)
                case measure => have := HN.out; omega
                case rel =>
                  have := HN.out
                  exact ⟨t + 1, _, rfl, ⟨HI14.out, HN.out.1, by omega, by omega⟩, HB14⟩
              · have hj8 : t = 4148 := by omega
                subst hj8
                have HC := Aside0.mk (clock_runs w3.heap.size g v2 dd p 4148 _ hi hr true (passes_at _ hL1))
                have hn := hr.next
                have hpass : (Drv.clk dd).1.passed = 0 := by rw [hn.2.2.1, if_pos (passes_at _ hL1), which_at _ hL1]
                have hside : (Drv.clk dd).1.side = p := hn.1.2.1
                have HP := Aside0.mk (And.intro hpass hside)
                clear HR hi hr hk hj hlt hn hpass hside
                go_wp2_with (go_at_call 13; refine HC.out.mono ?_; rintro e w14 ⟨rfl, hi, ht⟩; have HI14 := Aside0.mk hi; have HB14 := Aside0.mk (HBL.out.trans ht.below); clear hi ht)
                have HG := Aside0.mk (get_calls w3.heap.size g v2 _ _ HI14.out (.inr (by rw [HP.out.1, HP.out.2]; omega)))
                have hget : getI (Drv.clk dd).1 = 9 := by unfold getI; rw [if_neg (by rw [HP.out.1]; decide), HP.out.1, HP.out.2]; exact HG9.out
                rw [hget] at HG
                clear hget
                go_wp2_with (go_at_call 14; refine HG.out.mono ?_; rintro e w15 ⟨rfl, n15, rfl⟩)
                go_ret
                exact ⟨rfl, below_step HBW.out (pw_below_drewN HB14.out n15)⟩
end Go.Proofs.Ytmfdmfflbdghfaa.Drive
