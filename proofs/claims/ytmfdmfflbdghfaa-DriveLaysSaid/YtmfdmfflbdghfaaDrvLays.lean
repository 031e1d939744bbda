/-
  WHAT IS LAID IS FOUND THERE IN EACH LATER ROUND: the law's walk. By the prover of this repo.
-/
import Derived.Test.YtmfdmfflbdghfaaDrvLay
namespace Go.Proofs.Ytmfdmfflbdghfaa.Drive
open Go.RowKit Go.Proofs.Ytmfdmfflbdghfaa.PDriveLays Go.Proofs.Ytmfdmfflbdghfaa.U Go.Proofs.YtmfdmfflbdghfaaW.PrintWords Go.Proofs.YtmfdmfflbdghfaaW.PrintLast Go.Proofs.YtmfdmfflbdghfaaW.PrintMore
set_option linter.unusedVariables false
set_option linter.unusedSimpArgs false
/-- the cycles behind which the byte i's own begin -/
def s0 (i : Int) : Int := if i = 0 then 0 else 4000 + 149 * i
theorem s0_next {i : Int} (h : 0 ≤ i) : 4149 + 149 * i = s0 (i + 1) := by unfold s0; rw [if_neg (by omega)]; omega
theorem passes_mid {n i t : Int} (hi0 : 0 ≤ i) (hi1 : i < n) (h0 : s0 i ≤ t) (h1 : t < 4148 + 149 * i) : Drv.passes n t = false := by
  unfold s0 at h0
  unfold Drv.passes
  split at h0
  · rename_i e; subst e
    rw [Int.emod_eq_of_lt (by omega) (by omega)]; simp; omega
  · rw [Int.emod_eq_of_lt (by omega) (by omega)]; simp; omega
theorem passes_end {n i : Int} (hi0 : 0 ≤ i) (hi1 : i < n) : Drv.passes n (4148 + 149 * i) = true ∧ Drv.which n (4148 + 149 * i) = i := by
  unfold Drv.passes Drv.which
  rw [Int.emod_eq_of_lt (by omega) (by omega)]
  constructor
  · simp; omega
  · omega
theorem Runs.wrap {d : Drv.D} {p : List Int} (h : Runs d p (s0 p.length)) : Runs d p 0 := by
  obtain ⟨hm, hs, hn, h1, h2, h3⟩ := h
  have hl : 0 < p.length := List.length_pos_iff.2 hn
  have e : s0 (p.length : Int) % (4000 + 149 * (p.length : Int)) = 0 % (4000 + 149 * (p.length : Int)) := by
    unfold s0; rw [if_neg (by omega), Int.emod_self]; rfl
  refine ⟨hm, hs, hn, ?_, ?_, ?_⟩
  · rw [h1, hs]; unfold Drv.goneR; rw [e]
  · rw [h2, hs]; unfold Drv.goneL; rw [e]
  · rw [h3, hs]; unfold Drv.goneP; rw [e]
theorem Runs.lay {d : Drv.D} {p : List Int} {t : Int} (h : Runs d p t) (b : Int) : Runs (laid d b) (p.set d.passed.toNat b) t := by
  obtain ⟨hm, hs, hn, h1, h2, h3⟩ := h
  unfold laid
  refine ⟨hm, by show d.side.set _ _ = _; rw [hs], by intro e; have := congrArg List.length e; rw [List.length_set] at this; exact hn (List.length_eq_zero_iff.1 (by simpa using this)), ?_, ?_, ?_⟩
  · show d.ready = _
    rw [h1, List.length_set]
  · show d.left = _
    rw [h2, List.length_set]
  · show d.pos = _
    rw [h3, List.length_set]
/-- a row made behind the drive's blocks stays where the drive turns -/
theorem R_turn {W W' : World} {base B g : Nat} {v u : Value} {xs : List Int} (h : (Kd.int .u8).R 5 W B (fun _ => True) u xs) (ht : Turn base W W' (Foot g v)) (hg : g < B) (hv : ∀ k, v.ownBlock = some k → k < B) : (Kd.int .u8).R 5 W' B (fun _ => True) u xs :=
  Kd.R_mono (Kd.R_step (Kd.R_bound h) (fun k hk hlt => ht.kept k hlt (fun hf => hf.elim (fun e => by have := hk.2.1; omega) (fun e => by have := hv k e; have := hk.2.1; omega)))) (fun _ _ => trivial)
theorem Is.setHigh {base B : Nat} {W : World} {g : Nat} {v : Value} {d : Drv.D} (h : Is base W g v d) (hg : g < B) (hv : ∀ k, v.ownBlock = some k → k < B) {p : Addr} (hp : B ≤ p.block) (u : Value) : Is base (W.setCell p u) g v d :=
  ⟨h.1.far (by omega) u, h.2.1, Kd.R_mono (Kd.R_far (ok := fun k => k < B) (Kd.R_of_own (Kd.own_of_R h.2.2.1) hv) (fun k hk => by omega) u) (fun k _ => trivial), h.2.2.2⟩
theorem join1_calls (A : Option Addr) (c : Nat) (l : List Int) (W : World) (hC : (Kd.slice 5 (Kd.int .u8)).C W A 1 [l]) (hc : 1 ≤ c) (hy : l.length < 140737488355328) :
    Calls Try.prog 23 #[.slice A 1 c] W fun e W' => ∃ v : Value, e = .returned v ∧ Kd.R (Kd.int .u8) 5 W' W.heap.size (fun _ => True) v l ∧ Below W.heap.size W W' := by
  obtain ⟨k, hk⟩ := Pure.join_ev [l] (show 1 < 1000000000 by decide) (by simpa using hy)
  rw [show ([l] : List (List Int)).flatten = l by simp] at hk
  exact kotatsuref01_Join.calls k A c [l] _ W hC hc (hk k (Nat.le_refl _))
theorem same_calls (A : Option Addr) (c n : Nat) (l : List Int) (A' : Option Addr) (c' n' : Nat) (l' : List Int) (W : World) (hn : l.length = n) (hn' : l'.length = n') (hC : (Kd.int .u8).C W A l.length l) (hc : l.length ≤ c) (hC' : (Kd.int .u8).C W A' l'.length l') (hc' : l'.length ≤ c') (hy : l.length ≤ 140737488355328) :
    Calls Try.prog 24 #[.slice A n c, .slice A' n' c'] W fun e W' => e = .returned (.bool (decide (l = l'))) ∧ ∃ n, W' = W.drewN n := by
  subst hn
  subst hn'
  obtain ⟨k, hk⟩ := Pure.same_ev l l' hy
  refine (kotatsuref01_Same.calls k A c l A' c' l' _ W hC hc hC' hc' (hk k (Nat.le_refl _))).mono ?_
  rintro e W' ⟨rfl, ⟨m, rfl⟩⟩
  exact ⟨rfl, m, rfl⟩
theorem R_C {W : World} {base n c : Nat} {ok : Nat → Prop} {A : Option Addr} {xs : List Int} (h : (Kd.int .u8).R 5 W base ok (.slice A n c) xs) : xs.length ≤ c ∧ (Kd.int .u8).C W A xs.length xs := by
  obtain ⟨A', c', e, hl, hC⟩ := Kd.R_reads h
  injection e with e1 e2 e3
  subst e1
  subst e3
  exact ⟨hl, hC⟩
theorem C_one (W : World) (A : Option Addr) (c : Nat) (l : List Int) (hC : (Kd.int .u8).C W A l.length l) (hc : l.length ≤ c) : (Kd.slice 5 (Kd.int .u8)).C (W.alloc (.cells #[.slice A l.length c] 22 (0, 0))) (some ⟨W.heap.size, 0, none⟩) 1 [l] := by
  have h : At (W.alloc (.cells #[.slice A l.length c] 22 (0, 0))) W.heap.size 22 #[.slice A l.length c] := heap_alloc_new W _
  refine ⟨rfl, by decide, fun _ => ⟨_, rfl, fun j p hj => ?_⟩⟩
  cases j with
  | zero =>
    cases hj
    refine ⟨[.slice A l.length c], rfl, ⟨A, c, rfl, hc, Kd.C_below hC (below_alloc (Below.refl _ _) _)⟩, fun i u hu => ?_⟩
    cases i with
    | zero => cases hu; exact h.cell 0
    | succ i => cases hu
  | succ j => cases hj
theorem s0_le {i : Int} (h : 0 ≤ i) : 0 ≤ s0 i := by unfold s0; split <;> omega
theorem s0_gap {i : Int} (h : 0 ≤ i) : 4148 + 149 * i - s0 i ≤ 4148 ∧ s0 i ≤ 4148 + 149 * i := by unfold s0; split <;> omega
set_option maxHeartbeats 4000000 in
theorem lays_walk (A : Option Addr) (l : List Int) (c : Nat) (B : Option Addr) (bs : List Int) (cb : Nat) (gd : Bool) (W : World) (hC : (Kd.int .u8).C W A l.length l) (hc : l.length ≤ c) (hy : l.length * 1 ≤ 140737488351232) (hw : ∀ x ∈ l, (Lit.int .u8 x).wf = true)
    (hCb : (Kd.int .u8).C W B bs.length bs) (hcb : bs.length ≤ cb) (hyb : bs.length * 1 ≤ 140737488351232) (hwb : ∀ x ∈ bs, (Lit.int .u8 x).wf = true) :
    Calls Try.prog 6 #[.slice A l.length c, .slice B bs.length cb, .bool gd] W fun e W' => e = .returned (.bool true) ∧ Below W.heap.size W W' := by
  have HCUT := Aside0.mk (fun (W1 : World) (hb : Below W.heap.size W W1) => cut_calls A c l 12 W1 (by decide) (Kd.C_below hC hb) hc hy)
  have HBS := Aside0.mk (fun (W1 : World) (hb : Below W.heap.size W W1) => Kd.C_below hCb hb)
  have HP20 := Aside0.mk (small_take (l := l) 12)
  have hyb' : bs.length ≤ 140737488351232 := by omega
  generalize l.take 12 = p at HCUT HP20
  clear hC hc hy hw hCb hcb hyb hwb
  generalize l.length = n0 at *
  by_cases he : p = []
  · subst he
    go_enter Try.func6, Try.ntmps6
    go_wp2_with (first
      | (go_at_call 8; refine (awake_calls _).mono ?_; rintro e w1 ⟨rfl, hb⟩; have HB1 := Aside0.mk hb; clear hb)
      | (go_at_call 9; refine (HCUT.out _ HB1.out).mono ?_; rintro e w2 ⟨v, rfl, hR, hb⟩; have HB2 := Aside0.mk (below_step HB1.out hb); obtain ⟨A1, c1, rfl, hc1, hC1⟩ := Kd.R_reads hR; clear hb hR hc1 hC1)
      | (go_at_call 10; refine (new_calls W.heap.size _ (HB2.out.size)).mono ?_; rintro e w3 ⟨g, rfl, hi, hb, hg⟩; have HI := Aside0.mk hi; have HB3 := Aside0.mk (below_step HB2.out hb); clear hi hb hg))
    go_ret
    exact ⟨rfl, HB3.out⟩
  · have hp0 : 0 < p.length := List.length_pos_iff.2 he
    have t1 : ((p.length : Int) == 0) = false := by simp; intro e; exact he e
    have HE := Aside0.mk (And.intro he hp0)
    have b1 : (p.length : Int) ≤ 12 := by have := HP20.out; omega
    have b2 : (0 : Int) < (p.length : Int) := by omega
    clear he hp0
    go_enter Try.func6, Try.ntmps6
    go_wp2_with (first
      | (go_at_call 8; refine (awake_calls _).mono ?_; rintro e w1 ⟨rfl, hb⟩; have HB1 := Aside0.mk hb; clear hb)
      | (go_at_call 9; refine (HCUT.out _ HB1.out).mono ?_; rintro e w2 ⟨v, rfl, hR, hb⟩; have HB2 := Aside0.mk (below_step HB1.out hb); obtain ⟨A1, c1, rfl, hc1, hC1⟩ := Kd.R_reads hR; have HV := Aside0.mk (And.intro hc1 hC1); clear hb hR hc1 hC1)
      | (go_at_call 10; refine (new_calls w2.heap.size w2 (Nat.le_refl _)).mono ?_; rintro e w3 ⟨g, rfl, hi, hb, hg⟩; have HI := Aside0.mk hi; have HV3 := Aside0.mk (Kd.C_below HV.out.2 hb); have HB3 := Aside0.mk hb; clear hi hb hg)
      | (go_at_call 11; refine (insert_yes w2.heap.size g _ _ A1 c1 p _ HI.out rfl HE.out.2 (by have := HP20.out; omega) HV.out.1 HV3.out HB3.out.size).mono ?_; rintro e w4 ⟨rfl, v1, hi, hg1, ht⟩; have HI4 := Aside0.mk hi; have HB4 := Aside0.mk (HB3.out.trans ht.below); clear hi hg1 ht)
      | (go_at_call 12; refine (motor_calls w2.heap.size g v1 _ true _ HI4.out).mono ?_; rintro e w5 ⟨rfl, hi, ht⟩; have HI5 := Aside0.mk (show Is w2.heap.size w5 g v1 (starts p) from hi); have HB5 := Aside0.mk (HB4.out.trans ht.below); clear hi ht)
      | (go_at_call 22; refine (protect_calls w2.heap.size g v1 _ gd _ HI5.out).mono ?_; rintro e w6 ⟨rfl, hi, ht⟩; have HI6 := Aside0.mk hi; have HB6 := Aside0.mk (HB5.out.trans ht.below); clear hi ht)
      | (go_at_call 23; refine (join1_calls _ 1 p _ (C_one w6 A1 c1 p (Kd.C_below HV.out.2 HB6.out) HV.out.1) (by decide) (by have := HP20.out; omega)).mono ?_; rintro e w7 ⟨v7, rfl, hR, hb⟩; have HW7 := Aside0.mk (Kd.R_lower hR (Below.alloc (Below.refl w6.heap.size w6) (Nat.le_refl _) _).size); have HI7 := Aside0.mk ((HI6.out.below (below_alloc (Below.refl _ _) _)).below hb); have HB7 := Aside0.mk (below_step (below_alloc HB6.out _) hb); clear hb hR))
    have HGB : Aside0 (g < w6.heap.size ∧ ∀ k, v1.ownBlock = some k → k < w6.heap.size) := ⟨⟨HI6.out.1.lt, fun k hk => ((Kd.R_bound HI6.out.2.2.1).1 k hk).2.2.1⟩⟩
    obtain ⟨gW, cW, hvW, hgW, hlW⟩ := (Kd.own_of_R HW7.out).form (by have := HE.out.2; omega)
    subst hvW
    have HGW := Aside0.mk hgW
    clear hgW hlW
    go_loopg [40] p.length (fun kq v40 w' => ∃ (i : Int) (d : Drv.D) (q : List Int), v40 = .int .i64 i ∧ Aside0 (Is w2.heap.size w' g v1 d ∧ Runs d q (s0 i) ∧ d.guarded = gd ∧ q.length = p.length ∧ i + kq = p.length ∧ 0 ≤ i) ∧ Aside0 ((Kd.int .u8).R 5 w' w6.heap.size (fun _ => True) (.slice (some ⟨gW, 0, none⟩) p.length cW) q) ∧ Aside0 (Below w2.heap.size w2 w'))
    case atStart => exact ⟨0, _, p, rfl, ⟨HI7.out, (show Runs { starts p with guarded := gd } p 0 from Runs.of_back (d := { starts p with guarded := gd }) rfl HE.out.1), rfl, rfl, by omega, by decide⟩, HW7, HB7⟩
    case round =>
      obtain ⟨i, d, q, rfl, HR, HW, HB⟩ := hrel
      obtain ⟨hi, hrun, hgd, hql, hk, hi0⟩ := HR.out
      by_cases hlt : i < p.length
      · have d1 : decide (i < (p.length : Int)) = true := decide_eq_true hlt
        have hq1 : i < (q.length : Int) := by omega
        have HKO := Aside0.mk (And.intro hk hlt)
        have HST := Aside0.mk (And.intro hi (And.intro hrun hgd))
        have HQL := Aside0.mk hql
        have hs := s0_gap hi0
        have hs0 := s0_le hi0
        clear HR hi hrun hgd hk hql
        go_wp2
        go_loopg [10] (4148 + 149 * i - s0 i).toNat (fun kq v10 w' => ∃ (j : Int) (dd : Drv.D), v10 = .int .i64 j ∧ Aside0 (Is w2.heap.size w' g v1 dd ∧ Runs dd q (s0 i + j) ∧ dd.guarded = gd ∧ s0 i + j + kq = 4148 + 149 * i ∧ 0 ≤ j) ∧ Aside0 ((Kd.int .u8).R 5 w' w6.heap.size (fun _ => True) (.slice (some ⟨gW, 0, none⟩) p.length cW) q) ∧ Aside0 (Below w2.heap.size w2 w'))
        case atStart => exact ⟨0, d, rfl, ⟨HST.out.1, by rw [Int.add_zero]; exact HST.out.2.1, HST.out.2.2, by omega, by decide⟩, HW, HB⟩
        case round =>
          clear HW HB HST
          obtain ⟨j, dd, rfl, HR, HW, HB⟩ := hrel
          obtain ⟨hi, hrun, hgd, hk, hj⟩ := HR.out
          by_cases hlj : s0 i + j < 4148 + 149 * i
          · have HC := Aside0.mk (clock_runs w2.heap.size g v1 dd q _ _ hi hrun false (passes_mid hi0 hq1 (by omega) hlj))
            have g1 : decide (j < 5000) = true := decide_eq_true (by omega)
            have HN := Aside0.mk (And.intro hrun.next (And.intro hgd (And.intro hk (And.intro hj hlj))))
            have hj5 : j + 1 ≤ 5000 := by omega
            clear HR hi hrun hgd hk hlj
            go_wp2_with (go_at_call 13; refine HC.out.mono ?_; rintro e w8 ⟨rfl, hi, ht⟩; have HI8 := Aside0.mk hi; have HB8 := Aside0.mk (HB.out.trans ht.below); have HW8 := Aside0.mk (R_turn HW.out ht HGB.out.1 HGB.out.2); clear hi ht)
            go_roundg (gk - 1)
            case measure => have := HN.out; omega
            case rel =>
              have := HN.out
              exact ⟨j + 1, _, rfl, ⟨HI8.out, by rw [← Int.add_assoc]; exact HN.out.1.1, by rw [HN.out.1.2.2.2.1]; exact HN.out.2.1, by omega, by omega⟩, HW8, HB8⟩
          · have hje : s0 i + j = 4148 + 149 * i := by omega
            rw [hje] at hrun
            have HC := Aside0.mk (clock_runs w2.heap.size g v1 dd q _ _ hi hrun true (passes_end hi0 hq1).1)
            have hn := hrun.next
            have hpass : (Drv.clk dd).1.passed = i := by rw [hn.2.2.1, if_pos (passes_end hi0 hq1).1, (passes_end hi0 hq1).2]
            have hside : (Drv.clk dd).1.side = q := hn.1.2.1
            have hru2 : Runs (Drv.clk dd).1 q (s0 (i + 1)) := by rw [← s0_next hi0]; have := hn.1; rwa [show 4148 + 149 * i + 1 = 4149 + 149 * i by omega] at this
            have HP := Aside0.mk (And.intro hpass (And.intro hside (And.intro hru2 (show (Drv.clk dd).1.guarded = gd by rw [hn.2.2.2.1]; exact hgd))))
            have hg5 : decide (j < 5000) = true := decide_eq_true (by omega)
            have p0 := eq_true hi0
            have hi12 : i + 1 ≤ 13 := by omega
            clear HR hi hrun hgd hk hj hlj hje hn hpass hside hru2 hs hs0
            by_cases hlay : i < (bs.length : Int) ∧ i % 2 = 0
            · have m1 : decide (i < (bs.length : Int)) = true := decide_eq_true hlay.1
              have m2 : i.tmod 2 = 0 := by rw [Int.tmod_eq_emod_of_nonneg hi0]; exact hlay.2
              have m3 := eq_true hlay.1
              obtain ⟨ad, ea, -⟩ := Kd.at_int (HBS.out W (Below.refl _ _)) i hi0 hlay.1
              subst ea
              have HX := Aside0.mk (fun (W1 : World) (hb : Below W.heap.size W W1) => (by obtain ⟨ad', ea, hx⟩ := Kd.at_int (HBS.out W1 hb) i hi0 hlay.1; cases ea; exact hx : W1.cell? (ad.add i.toNat) = some (.int .u8 (rd bs i))))
              have HLY := Aside0.mk (And.intro hi0 hq1)
              have hqp : i < (p.length : Int) := by have := HQL.out; omega
              have p1 := eq_true hqp
              clear hlay
              cases gd
              · go_wp2_with (first
                  | (go_at_call 13; refine HC.out.mono ?_; rintro e w8 ⟨rfl, hi, ht⟩; have HI8 := Aside0.mk hi; have HB8 := Aside0.mk (HB.out.trans ht.below); have HW8 := Aside0.mk (R_turn HW.out ht HGB.out.1 HGB.out.2); have x8 := HX.out w8 (below_step HB2.out HB8.out); clear hi ht)
                  | (go_at_call 20; refine (lay_yes w2.heap.size g v1 _ (rd bs i) w8 HI8.out (by rw [HP.out.1]; exact hi0) (by rw [HP.out.1, HP.out.2.1]; exact hq1) HP.out.2.2.2).mono ?_; rintro e w9 ⟨rfl, hi, ht⟩; have HI9 := Aside0.mk hi; have HB9 := Aside0.mk (HB8.out.trans ht.below); have HW9 := Aside0.mk (R_turn HW8.out ht HGB.out.1 HGB.out.2); have x9 := HX.out w9 (below_step HB2.out HB9.out); have hWW := own_at (i := i) (xs := q) (n := p.length) (by have := Kd.own_of_R HW9.out; rw [HQL.out] at this; exact this) hi0 hqp; have y9 := hWW.1; have z9 := hWW.2; clear hWW hi ht))
                have HPT := Aside0.mk (Kd.R_putg HW9.out i (rd bs i)).1
                have HRL := Aside0.mk (HP.out.2.2.1.lay (rd bs i))
                rw [HP.out.1] at HRL
                go_roundg (p.length - (i + 1)).toNat
                case measure => have := HKO.out; omega
                case rel =>
                  have := HKO.out
                  exact ⟨i + 1, _, q.set i.toNat (rd bs i), rfl, ⟨HI9.out.setHigh HGB.out.1 HGB.out.2 (p := ⟨gW, i.toNat, none⟩) HGW.out _, HRL.out, HP.out.2.2.2, by rw [List.length_set]; exact HQL.out, by omega, by omega⟩, HPT, ⟨HB9.out.setCell (p := ⟨gW, i.toNat, none⟩) (Nat.le_trans HB6.out.size HGW.out) _⟩⟩
              · go_wp2_with (first
                  | (go_at_call 13; refine HC.out.mono ?_; rintro e w8 ⟨rfl, hi, ht⟩; have HI8 := Aside0.mk hi; have HB8 := Aside0.mk (HB.out.trans ht.below); have HW8 := Aside0.mk (R_turn HW.out ht HGB.out.1 HGB.out.2); have x8 := HX.out w8 (below_step HB2.out HB8.out); clear hi ht)
                  | (go_at_call 20; refine (lay_none w2.heap.size g v1 _ (rd bs i) w8 HI8.out (.inr HP.out.2.2.2)).mono ?_; rintro e w9 ⟨rfl, rfl⟩))
                go_roundg (p.length - (i + 1)).toNat
                case measure => have := HKO.out; omega
                case rel =>
                  have := HKO.out
                  exact ⟨i + 1, _, q, rfl, ⟨HI8.out, HP.out.2.2.1, HP.out.2.2.2, HQL.out, by omega, by omega⟩, HW8, HB8⟩
            · have m5 : i.tmod 2 = i % 2 := Int.tmod_eq_emod_of_nonneg hi0
              have m6 : decide (i < (bs.length : Int)) = false ∨ (decide (i < (bs.length : Int)) = true ∧ (i % 2 == 0) = false) := by
                by_cases hb : i < (bs.length : Int)
                · exact .inr ⟨decide_eq_true hb, by have : ¬ i % 2 = 0 := fun e => hlay ⟨hb, e⟩; simpa using this⟩
                · exact .inl (decide_eq_false hb)
              generalize i % 2 = z at *
              clear hlay
              rcases m6 with m6 | ⟨m6, m7⟩
              all_goals
                go_wp2_with (go_at_call 13; refine HC.out.mono ?_; rintro e w8 ⟨rfl, hi, ht⟩; have HI8 := Aside0.mk hi; have HB8 := Aside0.mk (HB.out.trans ht.below); have HW8 := Aside0.mk (R_turn HW.out ht HGB.out.1 HGB.out.2); clear hi ht)
                go_roundg (p.length - (i + 1)).toNat
                case measure => have := HKO.out; omega
                case rel =>
                  have := HKO.out
                  exact ⟨i + 1, _, q, rfl, ⟨HI8.out, HP.out.2.2.1, HP.out.2.2.2, HQL.out, by omega, by omega⟩, HW8, HB8⟩
      · have hie : i = p.length := by omega
        have d1 : decide (i < (p.length : Int)) = false := decide_eq_false hlt
        have hw0 : Runs d q (s0 0) := by
          have h := hrun
          rw [hie, ← hql] at h
          exact h.wrap
        have HST := Aside0.mk (And.intro hi hw0)
        have HQL := Aside0.mk hql
        clear HR hi hrun hgd hk hi0 hlt hie hw0 hql
        go_wp2
        go_loopg [81] p.length (fun kq v81 w' => ∃ (i : Int) (d : Drv.D), v81 = .int .i64 i ∧ Aside0 (Is w2.heap.size w' g v1 d ∧ Runs d q (s0 i) ∧ i + kq = p.length ∧ 0 ≤ i) ∧ Aside0 ((Kd.int .u8).R 5 w' w6.heap.size (fun _ => True) (.slice (some ⟨gW, 0, none⟩) p.length cW) q) ∧ Aside0 (Below w2.heap.size w2 w'))
        case atStart => exact ⟨0, d, rfl, ⟨HST.out.1, HST.out.2, by omega, by decide⟩, HW, HB⟩
        case round =>
          clear HW HB HST d1
          obtain ⟨i2, d, rfl, HR, HW, HB⟩ := hrel
          obtain ⟨hi, hrun, hk, hi0⟩ := HR.out
          by_cases hlt : i2 < p.length
          · have d1 : decide (i2 < (p.length : Int)) = true := decide_eq_true hlt
            have hq1 : i2 < (q.length : Int) := by have := HQL.out; omega
            have HKO := Aside0.mk (And.intro hk hlt)
            have HST := Aside0.mk (And.intro hi hrun)
            have hs := s0_gap hi0
            have hs0 := s0_le hi0
            clear HR hi hrun hk
            go_wp2
            go_loopg [12] (4148 + 149 * i2 - s0 i2).toNat (fun kq v12 w' => ∃ (j : Int) (dd : Drv.D), v12 = .int .i64 j ∧ Aside0 (Is w2.heap.size w' g v1 dd ∧ Runs dd q (s0 i2 + j) ∧ s0 i2 + j + kq = 4148 + 149 * i2 ∧ 0 ≤ j) ∧ Aside0 ((Kd.int .u8).R 5 w' w6.heap.size (fun _ => True) (.slice (some ⟨gW, 0, none⟩) p.length cW) q) ∧ Aside0 (Below w2.heap.size w2 w'))
            case atStart => exact ⟨0, d, rfl, ⟨HST.out.1, by rw [Int.add_zero]; exact HST.out.2, by omega, by decide⟩, HW, HB⟩
            case round =>
              clear HW HB HST
              obtain ⟨j, dd, rfl, HR, HW, HB⟩ := hrel
              obtain ⟨hi, hrun, hk, hj⟩ := HR.out
              by_cases hlj : s0 i2 + j < 4148 + 149 * i2
              · have HC := Aside0.mk (clock_runs w2.heap.size g v1 dd q _ _ hi hrun false (passes_mid hi0 hq1 (by omega) hlj))
                have g1 : decide (j < 5000) = true := decide_eq_true (by omega)
                have HN := Aside0.mk (And.intro hrun.next (And.intro hk (And.intro hj hlj)))
                have hj5 : j + 1 ≤ 5000 := by omega
                clear HR hi hrun hk hlj
                go_wp2_with (go_at_call 13; refine HC.out.mono ?_; rintro e w8 ⟨rfl, hi, ht⟩; have HI8 := Aside0.mk hi; have HB8 := Aside0.mk (HB.out.trans ht.below); have HW8 := Aside0.mk (R_turn HW.out ht HGB.out.1 HGB.out.2); clear hi ht)
                go_roundg (gk - 1)
                case measure => have := HN.out; omega
                case rel =>
                  have := HN.out
                  exact ⟨j + 1, _, rfl, ⟨HI8.out, by rw [← Int.add_assoc]; exact HN.out.1.1, by omega, by omega⟩, HW8, HB8⟩
              · have hje : s0 i2 + j = 4148 + 149 * i2 := by omega
                rw [hje] at hrun
                have HC := Aside0.mk (clock_runs w2.heap.size g v1 dd q _ _ hi hrun true (passes_end hi0 hq1).1)
                have hn := hrun.next
                have hpass : (Drv.clk dd).1.passed = i2 := by rw [hn.2.2.1, if_pos (passes_end hi0 hq1).1, (passes_end hi0 hq1).2]
                have hside : (Drv.clk dd).1.side = q := hn.1.2.1
                have hru2 : Runs (Drv.clk dd).1 q (s0 (i2 + 1)) := by rw [← s0_next hi0]; have := hn.1; rwa [show 4148 + 149 * i2 + 1 = 4149 + 149 * i2 by omega] at this
                have HP := Aside0.mk (And.intro hpass (And.intro hside hru2))
                have hg5 : decide (j < 5000) = true := decide_eq_true (by omega)
                have p0 := eq_true hi0
                have p1 := eq_true hlt
                have hi12 : i2 + 1 ≤ 13 := by omega
                clear HR hi hrun hk hj hlj hje hn hpass hside hru2 hs hs0
                go_wp2_with (go_at_call 13; refine HC.out.mono ?_; rintro e w8 ⟨rfl, hi, ht⟩; have HI8 := Aside0.mk hi; have HB8 := Aside0.mk (HB.out.trans ht.below); have HW8 := Aside0.mk (R_turn HW.out ht HGB.out.1 HGB.out.2); clear hi ht)
                have HX := Aside0.mk (own_at (i := i2) (xs := q) (n := p.length) (by have := Kd.own_of_R HW8.out; rw [HQL.out] at this; exact this) hi0 hlt).1
                have hg0 : getI (Drv.clk dd).1 = rd q i2 := by unfold getI; rw [if_neg (by rw [HP.out.1]; omega), HP.out.1, HP.out.2.1]
                have HGT := Aside0.mk (get_calls w2.heap.size g v1 _ _ HI8.out.drew (.inr (by rw [HP.out.1, HP.out.2.1]; exact ⟨hi0, hq1⟩)))
                rw [hg0] at HGT
                clear hg0
                refine start_ (n := 7) (S := fun w' => w'.cell? ⟨gW, i2.toNat, none⟩ = some (.int .u8 (rd q i2))) (ds := []) #[false, false, false, false, false, false, false] (by kernel_rfl) rfl rfl (HX.out) (fun hHeld => ?_)
                refine pure_ (i := 0) (N := some 93) (v := ?_) (a' := ?_) #[true, false, false, false, false, false, false] rfl rfl (by kernel_rfl) (fun _ _ _ h => h) (Or.inl ⟨by rfl, ?_⟩) ?_ ?_
                rotate_left
                · intro w'
                  go_simp
                  with_reducible rfl
                rotate_left
                · simp only [Act.put, List.setIfInBounds_toArray, List.set_cons_zero, List.set_cons_succ, i64_w, i32_w]
                  rfl
                refine pure_ (i := 2) (N := some 95) (v := ?_) (a' := ?_) #[true, false, true, false, false, false, false] rfl rfl (by kernel_rfl) (fun _ _ _ h => h) (Or.inl ⟨by rfl, ?_⟩) ?_ ?_
                rotate_left
                · intro w'
                  go_simp
                  with_reducible rfl
                rotate_left
                · simp only [Act.put, List.setIfInBounds_toArray, List.set_cons_zero, List.set_cons_succ, i64_w, i32_w]
                  rfl
                refine pure_ (i := 3) (N := some 96) (v := ?_) (a' := ?_) #[true, false, true, true, false, false, false] rfl rfl (by kernel_rfl) (fun _ _ _ h => h) (Or.inl ⟨by rfl, ?_⟩) ?_ ?_
                rotate_left
                · intro w'
                  go_simp
                  with_reducible rfl
                rotate_left
                · simp only [Act.put, List.setIfInBounds_toArray, List.set_cons_zero, List.set_cons_succ, i64_w, i32_w]
                  rfl
                refine pure_ (i := 4) (N := some 97) (v := ?_) (a' := ?_) #[true, false, true, true, true, false, false] rfl rfl (by kernel_rfl) (fun _ _ _ h => h) (Or.inl ⟨by rfl, ?_⟩) ?_ ?_
                rotate_left
                · intro w'
                  go_simp
                  with_reducible rfl
                rotate_left
                · simp only [Act.put, List.setIfInBounds_toArray, List.set_cons_zero, List.set_cons_succ, i64_w, i32_w]
                  rfl
                refine take_ (i := 5) (N := some 98) (v := ?_) (a' := ?_) #[true, false, true, true, true, true, false] rfl rfl (by kernel_rfl) (fun _ _ _ h => h) (Or.inl ⟨by rfl, ?_⟩) hHeld ?_ ?_
                rotate_left
                · intro w' s0
                  go_simp
                  with_reducible rfl
                rotate_left
                · simp only [Act.put, List.setIfInBounds_toArray, List.set_cons_zero, List.set_cons_succ, i64_w, i32_w]
                  rfl
                refine one_ (i := 1) (N := some 94) #[true, true, true, true, true, true, false] rfl rfl (by kernel_rfl) (by decide) (fun K hK => ?_)
                refine goes_ Try.func14 (by kernel_rfl) rfl #[.pointer (some ⟨g, 0, none⟩)] (by rfl) rfl rfl (by simp only [List.map_toArray, List.map_cons, List.map_nil]; rfl) ?_
                with_reducible refine (HGT.out).mono ?_
                rintro e w9 ⟨rfl, n9, rfl⟩
                refine ⟨_, rfl, ?_⟩
                refine hK.out _ _ (HX.out) (fun hHeld => ?_)
                clear hK K
                refine norm_ (a' := ?_) ?_ ?_
                rotate_left
                · show Act.put _ (some 94) _ = _
                  simp only [Act.put, List.setIfInBounds_toArray, List.set_cons_zero, List.set_cons_succ, i64_w, i32_w]
                  rfl
                refine pure_ (i := 6) (N := some 99) (v := ?_) (a' := ?_) #[true, true, true, true, true, true, true] rfl rfl (by kernel_rfl) (fun _ _ _ h => h) (Or.inl ⟨by rfl, ?_⟩) ?_ ?_
                rotate_left
                · intro w'
                  go_simp
                  with_reducible rfl
                rotate_left
                · simp only [Act.put, List.setIfInBounds_toArray, List.set_cons_zero, List.set_cons_succ, i64_w, i32_w]
                  rfl
                refine done_ (by kernel_rfl) ?_
                go_wp2
                go_roundg (p.length - (i2 + 1)).toNat
                case measure => have := HKO.out; omega
                case rel =>
                  have := HKO.out
                  exact ⟨i2 + 1, _, rfl, ⟨HI8.out.drewN _, HP.out.2.2, by omega, by omega⟩, ⟨Kd.R_drewN HW8.out _⟩, ⟨pw_below_drewN HB8.out _⟩⟩
          · have d1 : decide (i2 < (p.length : Int)) = false := decide_eq_false hlt
            have HII := Aside0.mk hi
            have HSD := Aside0.mk hrun.2.1
            have HNE := Aside0.mk (And.intro hrun.2.2.1 (show q.length ≤ 65536 by have := HQL.out; omega))
            clear HR hi hrun hk hi0 hlt
            go_wp2_with (first
              | (go_at_call 16; refine (side_calls w2.heap.size g v1 d wr HII.out).mono ?_; rintro e w8 ⟨v8, rfl, hR, hb⟩; rw [HSD.out] at hR; obtain ⟨A8, c8, rfl, hc8, hC8⟩ := Kd.R_reads hR; have HV8 := Aside0.mk (And.intro hc8 hC8); have HI8 := Aside0.mk (HII.out.below hb); have HB8 := Aside0.mk (below_step HB.out hb); have HW8 := Aside0.mk (Kd.R_below HW.out hb); clear hR hb hc8 hC8))
            refine (same_calls A8 c8 _ q _ cW _ q w8 rfl HQL.out HV8.out.2 HV8.out.1 (R_C HW8.out).2 (R_C HW8.out).1 (by have := HNE.out.2; omega)).mono ?_
            rintro e w9 ⟨rfl, n9, rfl⟩
            have HI9 := Aside0.mk (HI8.out.drewN n9)
            have HB9 := Aside0.mk (pw_below_drewN HB8.out n9)
            have HW9 := Aside0.mk (Kd.R_drewN HW8.out n9)
            rw [decide_eq_true (rfl : q = q)]
            go_wp2_with (go_at_call 18; refine (eject_calls w2.heap.size g v1 d _ HI9.out).mono ?_; rintro e w10 ⟨rfl, hi, hR, ht⟩; rw [HSD.out] at hR; have HI10 := Aside0.mk hi; have HB10 := Aside0.mk (HB9.out.trans ht.below); have HW10 := Aside0.mk (R_turn (v := v1) HW9.out (ht.mono (fun i h => .inl h)) HGB.out.1 HGB.out.2); obtain ⟨A10, c10, rfl, hc10, hC10⟩ := Kd.R_reads hR; have HV10 := Aside0.mk (And.intro hc10 hC10); clear hi hR ht hc10 hC10)
            refine (same_calls A10 c10 _ q _ cW _ q w10 rfl HQL.out HV10.out.2 HV10.out.1 (R_C HW10.out).2 (R_C HW10.out).1 (by have := HNE.out.2; omega)).mono ?_
            rintro e w11 ⟨rfl, n11, rfl⟩
            have HI11 := Aside0.mk (HI10.out.drewN n11)
            have HB11 := Aside0.mk (pw_below_drewN HB10.out n11)
            rw [decide_eq_true (rfl : q = q)]
            go_wp2_with (go_at_call 19; refine (has_calls w2.heap.size g _ _ _ HI11.out).mono ?_; rintro e w12 ⟨rfl, rfl⟩; rw [show hasB (back { d with side := [], passed := -1 }) = false from rfl])
            go_ret
            exact ⟨rfl, below_step HB2.out HB11.out⟩
end Go.Proofs.Ytmfdmfflbdghfaa.Drive
