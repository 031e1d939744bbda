/-
  NO BYTES, TOO MANY, OR A SECOND SIDE, AREN'T TAKEN: the law's walk. By the prover of this repo.
-/
import Derived.Test.YtmfdmfflbdghfaaDrvStops
namespace Go.Proofs.Ytmfdmfflbdghfaa.Drive
open Go.RowKit Go.Proofs.Ytmfdmfflbdghfaa.PDriveLays Go.Proofs.YtmfdmfflbdghfaaW.PrintWords Go.Proofs.YtmfdmfflbdghfaaW.PrintLast Go.Proofs.YtmfdmfflbdghfaaW.PrintMore
set_option linter.unusedVariables false
set_option linter.unusedSimpArgs false
theorem Turn.over {B base : Nat} {A C D : World} {g : Nat} (hb : Below B A C) (ht : Turn base C D (fun i => i = g)) (hg : B ≤ g) (hB : B ≤ A.heap.size) : Below B A D :=
  ⟨ht.below.os.trans hb.os, ht.below.tape.trans hb.tape, ht.below.output.trans hb.output, Nat.le_trans hb.size ht.below.size, fun k hk => by
    rw [ht.kept k (by have := hb.size; omega) (by omega)]; exact hb.block k hk⟩
theorem Is.grown {base : Nat} {W W1 : World} {g : Nat} {v : Value} {d : Drv.D} (h : Is base W g v d) (hg : W.grownBy W1 none) : Is base W1 g v d :=
  ⟨blk_grown h.1 hg (by simp), h.2.1, Kd.R_grown h.2.2.1 hg (fun k _ => by simp), h.2.2.2⟩
theorem Is.setLow {base : Nat} {W : World} {g : Nat} {v : Value} {d : Drv.D} (h : Is base W g v d) {p : Addr} (hp : p.block < base) (u : Value) : Is base (W.setCell p u) g v d :=
  ⟨h.1.far (by have := h.2.1; omega) u, h.2.1, Kd.R_mono (Kd.R_far (Kd.R_bound h.2.2.1) (fun k hk => by have := hk.2.1; omega) u) (fun k _ => trivial), h.2.2.2⟩
set_option maxHeartbeats 2000000 in
theorem refuses_walk (A : Option Addr) (l : List Int) (c : Nat) (n : Int) (W : World) (hC : (Kd.int .u8).C W A l.length l) (hc : l.length ≤ c) (hy : l.length * 1 ≤ 140737488351232) (hw : ∀ x ∈ l, (Lit.int .u8 x).wf = true) (hn : (Lit.int .u8 n).wf = true) :
    Calls Try.prog 4 #[.slice A l.length c, .int .u8 n] W fun e W' => e = .returned (.bool true) ∧ Below W.heap.size W W' := by
  have HCUT := Aside0.mk (fun (W1 : World) (hb : Below W.heap.size W W1) => cut_calls A c l 12 W1 (by decide) (Kd.C_below hC hb) hc hy)
  have hn0 : 0 ≤ n ∧ n < 256 := by simp [Lit.wf, IntKind.min, IntKind.max, IntKind.signed, IntKind.bits] at hn; omega
  have HP20 := Aside0.mk (small_take (l := l) 12)
  generalize l.take 12 = p0 at HCUT HP20
  clear hC hc hy hw hn
  generalize l.length = n0 at *
  obtain ⟨hn0a, hn0b⟩ := hn0
  go_enter Try.func4, Try.ntmps4
  go_wp2_with (first
    | (go_at_call 8; refine (awake_calls _).mono ?_; rintro e w1 ⟨rfl, hb⟩; have HB1 := Aside0.mk hb; clear hb)
    | (go_at_call 9; refine (HCUT.out _ (below_alloc HB1.out _)).mono ?_; rintro e w2 ⟨v, rfl, hR, hb⟩; have HO := Aside0.mk (Kd.R_below (R_one w1 7 w1.heap.size (Nat.le_refl _)) hb); have HB2 := Aside0.mk (below_step (below_alloc (Below.refl _ _) _) hb); obtain ⟨A1, c1, rfl, hc1, hC1⟩ := Kd.R_reads hR; have HV := Aside0.mk (And.intro hc1 hC1); clear hb hR hc1 hC1)
    | ((with_reducible refine gate_builtin (b := .append) (xs := #[.tmp 10, .tmp 12]) rfl ?_); at_builtin; refine Kd.R_append_rows (Kd.int .u8) (w0 := w1) w1.heap.size rfl (.tmp 10) (.tmp 12) 22 5 (.int .u8 0) 1 rfl Try.underlying22 info5 rfl (by decide) (by omega) _ [7] p0 _ _ _ (fun _ => True) (fun _ => False) rfl rfl HO.out HV.out.2 (fun _ _ h => h) (fun _ h => h.elim) (fun _ _ => trivial) HB2.out HB2.out.size (by have := HP20.out; simp; omega) ?_; intro v3 w3 ho hb hg hat; have HB3 := Aside0.mk hb; have HR3 := Aside0.mk ho; clear ho hb hg hat))
  have hlen : ([7] ++ p0 : List Int).length = p0.length + 1 := by simp
  have HP3 := Aside0.mk (And.intro (show ([7] ++ p0 : List Int) ≠ [] by simp) (show ([7] ++ p0 : List Int).length ≤ 13 by have := HP20.out; simp; omega))
  have HG7 : Aside0 (∀ q : List Int, rd (([7] ++ p0) ++ q) 0 = 7) := ⟨fun _ => rfl⟩
  have HL1 : Aside0 (1 ≤ (([7] ++ p0 : List Int).length)) := ⟨by simp⟩
  clear hlen
  generalize ([7] ++ p0 : List Int) = p at *
  have HBW := Aside0.mk (below_step HB1.out HB3.out)
  have HS1 := Aside0.mk HB1.out.size
  clear HB2 HB1 HO HV
  obtain ⟨A3, c3, rfl, hc3, hC3⟩ := Kd.R_reads HR3.out
  have HC3 := Aside0.mk (And.intro hc3 hC3)
  clear hc3 hC3
  go_wp2_with (first
    | (go_at_call 10; refine (new_calls w3.heap.size w3 (Nat.le_refl _)).mono ?_; rintro e w4 ⟨g, rfl, hi, hb, hg⟩; have HI := Aside0.mk hi; have HV4 := Aside0.mk (Kd.C_below HC3.out.2 hb); have HB4 := Aside0.mk hb; clear hi hb hg))
  have HA := Aside0.mk (And.intro hn0a hn0b)
  go_wp2_with (first
    | (go_at_call 11; with_reducible refine (insert_no w3.heap.size g _ _ none 0 0 w4 HI.out (.inr (.inl rfl))).mono ?_; rintro e w5 ⟨rfl, rfl⟩)
    | ((with_reducible refine gate_dst (N := 22) rfl ?_); refine gate_guard (by rfl) ?_; dsimp only; refine Kd.R_make (Kd.int .u8) (w0 := w3) w3.heap.size 5 rfl rfl 22 (.tmp 21) (.tmp 21) rfl (65537 + n) rfl rfl Try.underlying22 (.int .u8 0) 1 info5 rfl (by decide) (by omega) 0 (okp := fun _ => False) (ok := fun _ => True) rfl (fun _ h => h.elim) trivial (by have := HA.out; omega) (by have := HA.out; omega) HB4.out HB4.out.size ?_; intro v6 w6 ho hb hg hat; generalize hz : List.replicate (65537 + n).toNat (0 : Int) = zs at ho; have hzl : 65536 < zs.length := (by have := HA.out; rw [← hz, List.length_replicate]; omega); obtain ⟨A6, c6, rfl, hc6, hC6⟩ := Kd.R_reads ho; have HZ := Aside0.mk hzl; have HI6 := Aside0.mk (HI.out.grown hg); have HB6 := Aside0.mk hb; clear hz hzl hc6 hC6 ho hb hg hat)
    | (go_at_call 11; with_reducible refine (insert_no w3.heap.size g _ _ A6 zs.length c6 w6 HI6.out (.inr (.inr HZ.out))).mono ?_; rintro e w5 ⟨rfl, rfl⟩))
  refine (insert_yes w3.heap.size g _ _ A3 c3 p w6 HI6.out rfl HL1.out (by have := HP3.out.2; omega) HC3.out.1 (Kd.C_below HC3.out.2 HB6.out) HB6.out.size).mono ?_
  rintro e w7 ⟨rfl, v1, hi, hg1, ht⟩
  have HI7 := Aside0.mk hi; have HB7 := Aside0.mk (HB6.out.trans ht.below); clear hi hg1 ht
  go_wp2_with fail
  refine (insert_no w3.heap.size g v1 _ A3 p.length c3 w7 HI7.out (.inl HP3.out.1)).mono ?_
  rintro e w8 ⟨rfl, rfl⟩
  obtain ⟨g3, cap3, hv3, hgb, hgl⟩ := (Kd.own_of_R HR3.out).form (by have := HL1.out; omega)
  cases hv3
  have HG3 := Aside0.mk (And.intro hgb hgl)
  have x3 : w7.cell? ⟨g3, 0, none⟩ = some (.int .u8 7) := by
    obtain ⟨ad, ea, hx⟩ := Kd.at_int (Kd.C_below HC3.out.2 HB7.out) 0 (by omega) (by have := HL1.out; omega)
    cases ea
    have := HG7.out []
    rw [List.append_nil] at this
    rw [this] at hx
    exact hx
  have f3 : w7.frozen? ⟨g3, 0, none⟩ = false := by
    have h := HB7.out.frozen (p := ⟨g3, 0, none⟩) hgl
    rw [h]
    exact (own_at (i := 0) (xs := p) (Kd.own_of_R HR3.out) (by omega) (by have := HL1.out; omega)).2
  have l0 : (0 : Int) < (p.length : Int) := by have := HL1.out; omega
  have l1 := eq_true l0
  have l2 : 0 < p.length := by omega
  have l3 : p.length ≤ 13 := HP3.out.2
  have HIX := Aside0.mk (HI7.out.setLow (p := ⟨g3, 0, none⟩) hgl (.int .u8 8))
  have HBX := Aside0.mk ((below_step HBW.out HB7.out).setCell (p := ⟨g3, 0, none⟩) (Nat.le_trans HS1.out hgb) (.int .u8 8))
  clear hgb hgl
  go_wp2_with fail
  refine (side_calls w3.heap.size g v1 _ _ HIX.out).mono ?_
  generalize w7.setCell ⟨g3, 0, none⟩ (.int .u8 8) = X at *
  rintro e w9 ⟨v9, rfl, hR9, hb⟩
  replace hR9 : (Kd.int .u8).R 5 w9 X.heap.size (fun _ => True) v9 p := hR9
  obtain ⟨g9, cap9, rfl, hgb, hgl⟩ := (Kd.own_of_R hR9).form (by omega)
  have x9 : w9.cell? ⟨g9, 0, none⟩ = some (.int .u8 7) := by
    have h := (own_at (i := 0) (xs := p) (Kd.own_of_R hR9) (by omega) (by omega)).1
    have := HG7.out []
    rw [List.append_nil] at this
    rw [this] at h
    exact h
  have f9 : w9.frozen? ⟨g9, 0, none⟩ = false := (own_at (i := 0) (xs := p) (Kd.own_of_R hR9) (by omega) (by omega)).2
  have HBY := Aside0.mk (hb.setCell (p := ⟨g9, 0, none⟩) hgb (.int .u8 8))
  clear hgb hgl hR9 hb
  go_wp2_with fail
  refine (copy_calls w3.heap.size g v1 _ _ (HIX.out.below HBY.out) (Nat.le_trans (by have := HIX.out.1.lt; have := HIX.out.2.1; omega) HBY.out.size)).mono ?_
  generalize w9.setCell ⟨g9, 0, none⟩ (.int .u8 8) = Y at *
  rintro e w10 ⟨g10, v10, rfl, hi, hb, hg10, hv10⟩
  have HIY := Aside0.mk (HIX.out.below HBY.out)
  have HI10 := Aside0.mk hi
  have HB10 := Aside0.mk hb
  have HG10 := Aside0.mk hg10
  have HBWY := Aside0.mk (below_step HBX.out HBY.out)
  clear hi hb hg10 hv10
  go_wp2_with fail
  refine (eject_calls w3.heap.size g10 v10 _ _ HI10.out).mono ?_
  rintro e w11 ⟨rfl, hi, -, ht⟩
  have HI11 := Aside0.mk hi
  have HB11 := Aside0.mk (ht.over HB10.out HG10.out (Nat.le_refl _))
  have HID := Aside0.mk (HIY.out.below HB11.out)
  have HBW11 := Aside0.mk (below_step HBWY.out HB11.out)
  have hS11 := Nat.le_trans HBW.out.size (show w3.heap.size ≤ w11.heap.size by have := hi.1.lt; have := hi.2.1; omega)
  clear hi ht
  have hd1 : hasB (back { side := p, motor := false, guarded := false, ready := false, left := 0, pos := 0, passed := -1, laid := false, laidAt := 0, laidB := 0 }) = true := (hasB_pos HP3.out.1).1
  have HD1 := Aside0.mk hd1
  clear hd1
  go_wp2_with fail
  refine (has_calls w3.heap.size g v1 _ _ HID.out).mono ?_
  rintro e w12 ⟨rfl, rfl⟩
  rw [HD1.out]
  go_wp2_with fail
  refine (side_calls w3.heap.size g v1 _ _ HID.out).mono ?_
  rintro e w12 ⟨v12, rfl, hR12, hb⟩
  replace hR12 : (Kd.int .u8).R 5 w12 w11.heap.size (fun _ => True) v12 p := hR12
  obtain ⟨g12, cap12, rfl, hgb, hgl⟩ := (Kd.own_of_R hR12).form (by omega)
  have x12 : w12.cell? ⟨g12, 0, none⟩ = some (.int .u8 7) := by
    have h := (own_at (i := 0) (xs := p) (Kd.own_of_R hR12) (by omega) (by omega)).1
    have := HG7.out []
    rw [List.append_nil] at this
    rw [this] at h
    exact h
  have HBW12 := Aside0.mk (below_step HBW11.out hb)
  have HI12 := Aside0.mk (HI11.out.below hb)
  clear hgb hgl hR12 hb
  go_wp2_with fail
  refine (has_calls w3.heap.size g10 _ _ _ HI12.out).mono ?_
  rintro e w13 ⟨rfl, rfl⟩
  rw [show hasB (back { (back { side := p, motor := false, guarded := false, ready := false, left := 0, pos := 0, passed := -1, laid := false, laidAt := 0, laidB := 0 }) with side := [], passed := -1 }) = false from rfl]
  go_wp2_with ((with_reducible refine gate_dst (N := 68) rfl ?_); refine gate_guard (by rfl) ?_; dsimp only; refine Kd.R_make (Kd.int .u8) (w0 := W) W.heap.size 5 rfl rfl 22 (.const (.int .i64 65536)) (.const (.int .i64 65536)) rfl 65536 rfl rfl Try.underlying22 (.int .u8 0) 1 info5 rfl (by decide) (by omega) 0 (okp := fun _ => False) (ok := fun _ => True) rfl (fun _ h => h.elim) trivial (by decide) (by decide) HBW12.out HBW12.out.size ?_; intro v14 w14 ho hb hg hat; generalize hz : List.replicate (65536 : Int).toNat (0 : Int) = zt at ho; have hzl : zt.length = 65536 := (by rw [← hz, List.length_replicate]; rfl); obtain ⟨A14, c14, rfl, hc14, hC14⟩ := Kd.R_reads ho; have HZT := Aside0.mk hzl; have HCT := Aside0.mk (And.intro hc14 hC14); have HI14 := Aside0.mk (HI12.out.grown hg); have HBW14 := Aside0.mk hb; have HSZ := Aside0.mk (hg.size); clear hz hzl hc14 hC14 ho hb hg hat)
  have hz0 : 0 < zt.length := by rw [HZT.out]; decide
  refine (insert_yes w3.heap.size g10 _ _ A14 c14 zt _ HI14.out rfl hz0 (by rw [HZT.out]; decide) HCT.out.1 HCT.out.2 (by have := HI14.out.1.lt; have := HI14.out.2.1; omega)).mono ?_
  rintro e w15 ⟨rfl, v15, hi, hg1, ht⟩
  have HB15 := Aside0.mk (HBW14.out.trans (ht.below.mono HBW.out.size))
  clear hi hg1 ht hz0
  go_wp2
  go_ret
  exact ⟨rfl, HB15.out⟩
end Go.Proofs.Ytmfdmfflbdghfaa.Drive
