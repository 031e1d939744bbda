-- made by a program of this repo (wip/patch_print.py); not trusted: Lean checks it
import Derived.Test.YthnfmoaiejaheaaPDiskRefusesx0
import Derived.Test.YthnfmoaiejaheaaPDiskRefusesx1
import Derived.Test.YthnfmoaiejaheaaPDiskRefusesx3
import Derived.Test.YthnfmoaiejaheaaPDiskRefusesx4
import Derived.Test.YthnfmoaiejaheaaPDiskRefusesx5
import Derived.Test.YthnfmoaiejaheaaPDiskRefusesx6
-- squeezed twice
namespace Go.Proofs.Ythnfmoaiejaheaa.PDiskRefuses
open Go.RowKit Go.Proofs.YthnfmoaiejaheaaW.PrintWords Go.Proofs.YthnfmoaiejaheaaW.PrintLast Go.Proofs.YthnfmoaiejaheaaW.PrintMore
open List renaming setIfInBounds_toArray → qa, set_cons_zero → qb, set_cons_succ → qc
attribute [local go_sem] max2_int min2_int max_two min_two max_three min_three max_four min_four   -- for this text's walks alone
set_option linter.unusedVariables false
set_option linter.unusedSimpArgs false
/-! ### kotatsulaw06_DiskRefuses: function 7 -/
mutual
def kotatsulaw06_DiskRefuses.j0 : Nat → Int → List Int → Int → Bool → Int → Option (Bool)
 | 0, _, _, _, _, _ => none
 | k + 1, x0, x1, x2, x8, x253000 => kotatsulaw06_DiskRefuses.l0 k x0 x2 x8 x1 (x1.length : Int) 0 x253000 ([] : List (List Int))
def kotatsulaw06_DiskRefuses.l0 : Nat → Int → Int → Bool → List Int → Int → Int → Int → List (List Int) → Option (Bool)
 | 0, _, _, _, _, _, _, _, _ => none
 | k + 1, x0, x2, x8, x44, x45, x46, x253000, x253001 => if x46 < x45 then (if 0 ≤ x46 then (if x46 < (x44.length : Int) then (if x46 < 10 then ((some (([65500, 65536, 65500, wrap64 (rd x44 x46)] : List Int) : List Int)).bind fun y254 => (if 0 ≤ (Int.tmod (rd x44 x46) 4) then (if (Int.tmod (rd x44 x46) 4) < (y254.length : Int) then (if x8 = true then (if (rd y254 (Int.tmod (rd x44 x46) 4)) = 65500 then (if x0 < 3 then (kotatsulaw06_DiskRefuses.j2 k x0 x2 true (rd y254 (Int.tmod (rd x44 x46) 4)) x44 x45 x46 x253000 x253001) else (if (rd y254 (Int.tmod (rd x44 x46) 4)) = 65536 then (kotatsulaw06_DiskRefuses.j2 k x0 x2 (x0 == 3) (rd y254 (Int.tmod (rd x44 x46) 4)) x44 x45 x46 x253000 x253001) else (kotatsulaw06_DiskRefuses.j2 k x0 x2 false (rd y254 (Int.tmod (rd x44 x46) 4)) x44 x45 x46 x253000 x253001))) else (if (rd y254 (Int.tmod (rd x44 x46) 4)) = 65536 then (kotatsulaw06_DiskRefuses.j2 k x0 x2 (x0 == 3) (rd y254 (Int.tmod (rd x44 x46) 4)) x44 x45 x46 x253000 x253001) else (kotatsulaw06_DiskRefuses.j2 k x0 x2 false (rd y254 (Int.tmod (rd x44 x46) 4)) x44 x45 x46 x253000 x253001))) else (kotatsulaw06_DiskRefuses.j2 k x0 x2 false (rd y254 (Int.tmod (rd x44 x46) 4)) x44 x45 x46 x253000 x253001)) else (none)) else (none))) else (kotatsulaw06_DiskRefuses.j3 k x0 x2 x8 x44 x45 x46 x253000 x253001)) else (none)) else (none)) else ((disk_Set_To.f k x253000 x253001 x2).bind fun bt264 => (if 65536 ≤ 281474976710656 then ((some (([(List.replicate 65536 0)] : List (List Int)) : List (List Int))).bind fun y273 => (if 0 < (y273.length : Int) then (if 0 < ((rd_L1 y273 0).length : Int) then ((disk_Set_To.f k 3 (y273.set (0 : Int).toNat ((rd_L1 y273 0).set (0 : Int).toNat 1)) 1).bind fun bt282 => (if 65425 ≤ 281474976710656 then ((block_File.f 0 0 (⟨#[]⟩ : ByteArray) 0 0 (List.replicate 65425 0)).bind fun t291 => ((block_Disk.f (⟨#[]⟩ : ByteArray) 0 (([t291] : List (List (S73))))).bind fun t297 => ((block_Side.f k t297 65500).bind fun bt300 => (if 65450 ≤ 281474976710656 then ((block_File.f 0 0 (⟨#[]⟩ : ByteArray) 0 0 (List.replicate 65450 0)).bind fun t307 => ((block_Disk.f (⟨#[]⟩ : ByteArray) 0 (([t307] : List (List (S73))))).bind fun t313 => ((disk_Wrap.f k t313).bind fun bt316 => ((disk_Set_To.f k 3 (([bt316.1] : List (List Int))) 1).bind fun bt323 => ((disk_Set_Right.f k x253000 x253001).bind fun t329 => (if (t329 == x8) = true then ((disk_Set_Bytes.f k x253000 x253001).bind fun t330 => (if ((decide ((t330.length : Int) > 0)) == x8) = true then (if x8 = true then (if x2 ≥ 1 then (if ((bt264.2.2 == 0) == (decide (x2 ≤ 3))) = true then (if bt264.2.2 = 0 then (if bt282.2.2 = 3 then (if bt300.2 = true then (if (bt300.1.length : Int) = 65500 then (kotatsulaw06_DiskRefuses.j4 k (bt323.2.2 == 7)) else (kotatsulaw06_DiskRefuses.j4 k false)) else (kotatsulaw06_DiskRefuses.j4 k false)) else (kotatsulaw06_DiskRefuses.j4 k false)) else (if bt264.2.2 = 1 then (if bt282.2.2 = 3 then (if bt300.2 = true then (if (bt300.1.length : Int) = 65500 then (kotatsulaw06_DiskRefuses.j4 k (bt323.2.2 == 7)) else (kotatsulaw06_DiskRefuses.j4 k false)) else (kotatsulaw06_DiskRefuses.j4 k false)) else (kotatsulaw06_DiskRefuses.j4 k false)) else (kotatsulaw06_DiskRefuses.j4 k false))) else (kotatsulaw06_DiskRefuses.j4 k false)) else (if ((bt264.2.2 == 0) == false) = true then (if bt264.2.2 = 0 then (if bt282.2.2 = 3 then (if bt300.2 = true then (if (bt300.1.length : Int) = 65500 then (kotatsulaw06_DiskRefuses.j4 k (bt323.2.2 == 7)) else (kotatsulaw06_DiskRefuses.j4 k false)) else (kotatsulaw06_DiskRefuses.j4 k false)) else (kotatsulaw06_DiskRefuses.j4 k false)) else (if bt264.2.2 = 1 then (if bt282.2.2 = 3 then (if bt300.2 = true then (if (bt300.1.length : Int) = 65500 then (kotatsulaw06_DiskRefuses.j4 k (bt323.2.2 == 7)) else (kotatsulaw06_DiskRefuses.j4 k false)) else (kotatsulaw06_DiskRefuses.j4 k false)) else (kotatsulaw06_DiskRefuses.j4 k false)) else (kotatsulaw06_DiskRefuses.j4 k false))) else (kotatsulaw06_DiskRefuses.j4 k false))) else (if ((bt264.2.2 == 0) == false) = true then (if bt264.2.2 = 0 then (if bt282.2.2 = 3 then (if bt300.2 = true then (if (bt300.1.length : Int) = 65500 then (kotatsulaw06_DiskRefuses.j4 k (bt323.2.2 == 7)) else (kotatsulaw06_DiskRefuses.j4 k false)) else (kotatsulaw06_DiskRefuses.j4 k false)) else (kotatsulaw06_DiskRefuses.j4 k false)) else (if bt264.2.2 = 1 then (if bt282.2.2 = 3 then (if bt300.2 = true then (if (bt300.1.length : Int) = 65500 then (kotatsulaw06_DiskRefuses.j4 k (bt323.2.2 == 7)) else (kotatsulaw06_DiskRefuses.j4 k false)) else (kotatsulaw06_DiskRefuses.j4 k false)) else (kotatsulaw06_DiskRefuses.j4 k false)) else (kotatsulaw06_DiskRefuses.j4 k false))) else (kotatsulaw06_DiskRefuses.j4 k false))) else (kotatsulaw06_DiskRefuses.j4 k false))) else (kotatsulaw06_DiskRefuses.j4 k false))))))) else (none))))) else (none))) else (none)) else (none))) else (none)))
def kotatsulaw06_DiskRefuses.j3 : Nat → Int → Int → Bool → List Int → Int → Int → Int → List (List Int) → Option (Bool)
 | 0, _, _, _, _, _, _, _, _ => none
 | k + 1, x0, x2, x8, x44, x45, x46, x253000, x253001 => kotatsulaw06_DiskRefuses.l0 k x0 x2 x8 x44 x45 (wrap64 (x46 + 1)) x253000 x253001
def kotatsulaw06_DiskRefuses.j2 : Nat → Int → Int → Bool → Int → List Int → Int → Int → Int → List (List Int) → Option (Bool)
 | 0, _, _, _, _, _, _, _, _, _ => none
 | k + 1, x0, x2, x8, x11, x44, x45, x46, x253000, x253001 => if 0 ≤ x11 then (if (x11 : Int).toNat ≤ 281474976710656 then (if x253001.length < 5864062014805 then (kotatsulaw06_DiskRefuses.j3 k x0 x2 x8 x44 x45 x46 x253000 (x253001 ++ [(List.replicate (x11 : Int).toNat 0)])) else (none)) else (none)) else (none)
def kotatsulaw06_DiskRefuses.j4 : Nat → Bool → Option (Bool)
 | 0, _ => none
 | k + 1, x6 => some x6
end
def kotatsulaw06_DiskRefuses.f (k : Nat) (a0 : Int) (l1 : List Int) (a2 : Int) : Option (Bool) := (kotatsulaw06_awake.f k).bind fun t251 => (if t251 = true then (if a0 ≥ 1 then (if a0 ≤ 3 then (if (l1.length : Int) ≥ 1 then (kotatsulaw06_DiskRefuses.j0 k a0 l1 a2 (decide ((l1.length : Int) ≤ 8)) a0) else (kotatsulaw06_DiskRefuses.j0 k a0 l1 a2 false a0)) else (kotatsulaw06_DiskRefuses.j0 k a0 l1 a2 false a0)) else (kotatsulaw06_DiskRefuses.j0 k a0 l1 a2 false a0)) else (some false))
def kotatsulaw06_DiskRefuses.T11 : Bool × List (List Nat × List Nat) := (true, [([], []), ([0], [0]), ([], []), ([2, 2], [2]), ([3], [3]), ([1, 4], [1, 4]), ([0, 1, 2, 3, 4, 5], []), ([6, 5, 5, 0, 1, 2, 3, 4, 5], [5, 6])])
def kotatsulaw06_DiskRefuses.B11 : List Nat := [0, 1, 0, 4, 12, 31, 63, 127]
theorem kotatsulaw06_DiskRefuses.tab11 : rtab .any (opsOf Try.f7 11) = kotatsulaw06_DiskRefuses.T11 := by kernel_rfl
theorem kotatsulaw06_DiskRefuses.bits11 : waitsOk kotatsulaw06_DiskRefuses.T11.2 kotatsulaw06_DiskRefuses.B11 = true := by kernel_rfl
theorem ne_beq (a b : Bool) (h : (a == b) = false) : a = !b := by cases a <;> cases b <;> first | rfl | cases h
/-! a store into an element's row of a row of rows in the form N (by the hand) -/
theorem add_block (ad : Addr) (n : Nat) : (ad.add n).block = ad.block := by
  unfold Addr.add; split <;> rfl
theorem F_block {k : IntKind} {W : World} {ok : Nat → Prop} {ad : Addr} {n : Nat} {xs : List Int} (h : Kd.F (Kd.int k) W ok (some ad) n xs) (i : Int) (h0 : 0 ≤ i) (h1 : i < n) : ok ad.block := by
  refine Classical.byContradiction fun hn => ?_
  have hc := Kd.foot_int (Kd.F_now h) i h0 h1
  have h2 := Kd.foot_int (h (W.setCell (ad.add i.toNat) (.bool false)) (fun k' hk _ => Below.heap_setCell W _ _ k' (fun e => hn (by rw [← add_block ad i.toNat, ← e]; exact hk)))) i h0 h1
  rw [World.cell?_setCell_same _ _ _ hc] at h2
  cases h2
theorem cell_same {W W' : World} {a : Addr} (h : W'.heap[a.block]? = W.heap[a.block]?) : W'.cell? a = W.cell? a := by
  unfold World.cell?; rw [h]
theorem cell_lt {W : World} {a : Addr} {u : Value} (h : W.cell? a = some u) : a.block < W.heap.size := by
  unfold World.cell? at h
  cases hb : W.heap[a.block]? with
  | none => rw [hb] at h; cases h
  | some o => exact (Array.getElem?_eq_some_iff.1 hb).1
theorem F_poke {k : IntKind} {W : World} {ok : Nat → Prop} {ad : Addr} {n : Nat} {xs : List Int} (h : Kd.F (Kd.int k) W ok (some ad) n xs) (i : Int) (h0 : 0 ≤ i) (h1 : i < n) (b : Int) : Kd.F (Kd.int k) (W.setCell (ad.add i.toNat) (.int k b)) ok (some ad) n (xs.set i.toNat b) := by
  intro W' hW
  have hb := F_block h i h0 h1
  have hl := Kd.F_len h
  have hc := Kd.foot_int (Kd.F_now h) i h0 h1
  have hlt : ad.block < (W.setCell (ad.add i.toNat) (.int k b)).heap.size := by
    have := cell_lt hc
    rw [add_block] at this
    simpa [World.setCell] using this
  refine Kd.C_of_reads (enc := Value.int k) (d := (0 : Int)) ⟨by rw [List.length_set]; exact hl, Kd.F_max h, fun hn => ⟨ad, rfl, fun j hj => ?_⟩⟩
  have hcj := Kd.foot_int (Kd.F_now h) (j : Int) (by omega) (by omega)
  rw [Int.toNat_natCast] at hcj
  rw [cell_same (W := W.setCell (ad.add i.toNat) (.int k b)) (by rw [add_block]; exact hW _ hb hlt)]
  by_cases e : ad.add i.toNat = ad.add j
  · have hij : i.toNat = j := by
      by_cases z1 : i.toNat = 0
      · by_cases z2 : j = 0
        · omega
        · exfalso; unfold Addr.add at e; rw [if_pos z1, if_neg z2] at e; have := congrArg Addr.off e; simp at this; omega
      · by_cases z2 : j = 0
        · exfalso; unfold Addr.add at e; rw [if_neg z1, if_pos z2] at e; have := congrArg Addr.off e; simp at this; omega
        · unfold Addr.add at e; rw [if_neg z1, if_neg z2] at e; have := congrArg Addr.off e; simp at this; omega
    rw [← e, World.cell?_setCell_same _ _ _ hc]
    subst hij
    rw [List.getD_eq_getElem?_getD, List.getElem?_set_self (by omega)]
    rfl
  · rw [World.cell?_setCell_other _ _ _ _ e, hcj]
    have hij : i.toNat ≠ j := fun z => e (by rw [z])
    unfold rd
    rw [Int.toNat_natCast, List.getD_eq_getElem?_getD, List.getD_eq_getElem?_getD, List.getElem?_set_ne hij]
theorem N_poke {k : IntKind} {e1 e : Nat} {W : World} {base : Nat} {ok : Nat → Prop} {a0 ad : Addr} {n0 c0 n c : Nat} {x : List Int} (h : Kd.N (Kd.slice e1 (Kd.int k)) e W base ok (.slice (some a0) n0 c0) [x]) (hx : W.cell? a0 = some (.slice (some ad) n c)) (i : Int) (h0 : 0 ≤ i) (h1 : i < x.length) (b : Int) :
    ok ad.block ∧ some ad.block ≠ (Value.slice (some a0) n0 c0).ownBlock ∧ Kd.N (Kd.slice e1 (Kd.int k)) e (W.setCell (ad.add i.toNat) (.int k b)) base ok (.slice (some a0) n0 c0) [x.set i.toNat b] := by
  obtain ⟨g0, rows, hr, hR, hf⟩ := h
  obtain ⟨g, rfl⟩ : ∃ g, a0 = ⟨g, 0, none⟩ := Kd.R_head hR
  have hn := (Kd.R_reads' hR).1
  have hl1 : rows.length = 1 := hr
  obtain ⟨c', hcl, hM, hcc, _⟩ := Kd.R_elem hR [] 0 (by omega) (by omega)
  have hc : c' = rows[0] := by
    have h2 := hM.1
    rwa [List.getD_eq_getElem?_getD, show (0 : Int).toNat = 0 from rfl, List.getElem?_eq_getElem (by omega)] at h2
  have hc0 : rows[0]? = some c' := by rw [hc]; exact List.getElem?_eq_getElem (by omega)
  obtain ⟨A, c1, he, hl, hF⟩ := Kd.FK_slice_open (hf 0 x c' rfl hc0)
  rw [he] at hcc
  have hv := hcc 0 _ rfl
  rw [show (0 : Int).toNat * (Kd.raw (Kd.slice e1 (Kd.int k)).sz).sz + 0 = 0 from rfl, hx] at hv
  injection hv with hv
  injection hv with hA hN hC
  subst hA
  have hb := F_block hF i h0 h1
  refine ⟨hb.1, hb.2, ⟨g0, rows, hr, Kd.R_step hR (fun k' hk _ => Below.heap_setCell W _ _ k' (fun e2 => hb.2 (by rw [← add_block ad i.toNat, ← e2]; exact hk))), fun j y cy hy hcy => ?_⟩⟩
  have hj : j = 0 := by have := (List.getElem?_eq_some_iff.1 hy).1; simp at this; omega
  subst hj
  have hy2 : x.set i.toNat b = y := Option.some.inj hy
  subst hy2
  have hcy2 : cy = c' := by rw [hc0] at hcy; exact (Option.some.inj hcy).symm
  rw [hcy2, he]
  have hp := F_poke hF i h0 h1 b
  have hsl : (x.set i.toNat b).length = x.length := List.length_set
  have := Kd.FK_slice_mk (e := e1) (c := c1) (by rw [hsl]; exact hl) (show Kd.F (Kd.int k) _ _ (some ad) (x.set i.toNat b).length (x.set i.toNat b) from by rw [hsl]; exact hp)
  rw [hsl] at this
  exact this
/-- a block of cells of one type isn't frozen -/
theorem typed_free {W : World} {a : Addr} {cells : Array Value} {e : Nat} (h : W.heap[a.block]? = some (.cells cells e (0, 0))) : W.frozen? a = false := by
  unfold World.frozen?
  rw [h]
  simp
set_option maxHeartbeats 8000000 in
set_option maxRecDepth 100000 in
theorem kotatsulaw06_DiskRefuses.calls (k : Nat) (a0 : Int) (A1 : Option Addr) (c1 : Nat) (l1 : List Int) (a2 : Int) (r : Bool) (w : World) (hr1 : Kd.C (Kd.int .u8) w A1 l1.length l1) (hc1 : l1.length ≤ c1) (h : kotatsulaw06_DiskRefuses.f k a0 l1 a2 = some r) :
  Calls Try.prog 7 #[.int .u8 a0, .slice A1 l1.length c1, .int .u8 a2] w fun e w' => e = .returned (.bool r) ∧ Below w.heap.size w w' := by
 have hu30 := Try.underlying30
 have HR1 := Aside0.mk hr1
 have HC1 := Aside0.mk hc1
 clear hr1 hc1
 have HB := Aside0.mk (Below.refl w.heap.size w)
 have H : ((kotatsulaw06_awake.f k).bind fun t251 => (if t251 = true then (if a0 ≥ 1 then (if a0 ≤ 3 then (if (l1.length : Int) ≥ 1 then (kotatsulaw06_DiskRefuses.j0 k a0 l1 a2 (decide ((l1.length : Int) ≤ 8)) a0) else (kotatsulaw06_DiskRefuses.j0 k a0 l1 a2 false a0)) else (kotatsulaw06_DiskRefuses.j0 k a0 l1 a2 false a0)) else (kotatsulaw06_DiskRefuses.j0 k a0 l1 a2 false a0)) else (some false))) = some r := h
 clear h
 replace H := Option.bind_eq_some_iff.mp H
 obtain ⟨t251, A40, H⟩ := H
 replace H : (if t251 = true then (if a0 ≥ 1 then (if a0 ≤ 3 then (if (l1.length : Int) ≥ 1 then (kotatsulaw06_DiskRefuses.j0 k a0 l1 a2 (decide ((l1.length : Int) ≤ 8)) a0) else (kotatsulaw06_DiskRefuses.j0 k a0 l1 a2 false a0)) else (kotatsulaw06_DiskRefuses.j0 k a0 l1 a2 false a0)) else (kotatsulaw06_DiskRefuses.j0 k a0 l1 a2 false a0)) else (some false)) = some r := H
 have A4 := Aside0.mk A40
 clear A40
 by_cases c5 : t251 = true
 rotate_left
 ·replace c5 := Bool.eq_false_iff.mpr c5
  subst c5
  have H1 : (some false) = some r := by rw [if_neg (show ¬ (false = true) by decide)] at H; exact H
  clear H
  have H := H1
  clear H1
  obtain rfl := Option.some.inj H
  go_enter Try.func7, Try.ntmps7
  go_wp2_with (first | ((with_reducible refine gate_callee (f := 9) rfl ?_); refine goesL_ (some 24) rfl rfl Try.func9 (by kernel_rfl) rfl #[] rfl (by (try simp only [List.map_toArray, List.map_cons, List.map_nil]); first | done | rfl | (simp only [List.length_drop, List.length_take]; rfl)) ?_; (with_reducible refine (kotatsulaw06_awake.calls k  false _ A4.out).mono ?_); rintro e w346 ⟨rfl, hb⟩; refine ⟨_, rfl, ?_⟩; have n0_ := Aside0.mk (below_step (by repeat (first | (with_reducible first | exact HB.out | apply below_alloc | apply pw_below_drewN | apply below_drew1) | exact HB.out)) hb); clear HB; have HB := n0_; clear n0_; (try clear hb); (try clear hb2); (try clear hk); (try clear hi)))
  go_ret
  exact ⟨by first | rfl | (simp [errW_none, errW_some] <;> rfl) | (simp [*, errW_none, errW_some] <;> rfl), by repeat (first | (with_reducible first | exact HB.out | apply below_alloc | apply pw_below_drewN | apply below_drew1) | exact HB.out)⟩
 subst c5
 have H1 : (if a0 ≥ 1 then (if a0 ≤ 3 then (if (l1.length : Int) ≥ 1 then (kotatsulaw06_DiskRefuses.j0 k a0 l1 a2 (decide ((l1.length : Int) ≤ 8)) a0) else (kotatsulaw06_DiskRefuses.j0 k a0 l1 a2 false a0)) else (kotatsulaw06_DiskRefuses.j0 k a0 l1 a2 false a0)) else (kotatsulaw06_DiskRefuses.j0 k a0 l1 a2 false a0)) = some r := by rw [if_pos rfl] at H; exact H
 clear H
 have H := H1
 clear H1
 have HC6 := Aside0.mk H
 clear H
 go_enter Try.func7, Try.ntmps7
 go_upto_region 4 with (first | ((with_reducible refine gate_callee (f := 9) rfl ?_); refine goesL_ (some 24) rfl rfl Try.func9 (by kernel_rfl) rfl #[] rfl (by (try simp only [List.map_toArray, List.map_cons, List.map_nil]); first | done | rfl | (simp only [List.length_drop, List.length_take]; rfl)) ?_; (with_reducible refine (kotatsulaw06_awake.calls k  true _ A4.out).mono ?_); rintro e w7 ⟨rfl, hb⟩; refine ⟨_, rfl, ?_⟩; have n0_ := Aside0.mk (below_step (by repeat (first | (with_reducible first | exact HB.out | apply below_alloc | apply pw_below_drewN | apply below_drew1) | exact HB.out)) hb); clear HB; have HB := n0_; clear n0_; (try clear hb); (try clear hb2); (try clear hk); (try clear hi)) | ((with_reducible refine gate_dst (N := 7) rfl ?_); (try (refine gate_guard (by rfl) ?_; dsimp only)); refine box_event ?hg (N := 7) ?hd (cs := #[.int .u8 0, .slice none 0 0]) (t := 30) ?hr ?_; (case hd => rfl); (case hg => rfl); (case hr => first | (go_simp; done) | (go_simp; rfl)); intro gb252 hg w8 hbox hb; have n0_ := Aside0.mk (below_step (by repeat (first | (with_reducible first | exact HB.out | apply below_alloc | apply pw_below_drewN | apply below_drew1) | exact HB.out)) hb); have n1_ := Aside0.mk (hbox); have n2_ := Aside0.mk ((by rw [hg]; exact (below_size (by repeat (first | (with_reducible first | exact HB.out | apply below_alloc | apply pw_below_drewN | apply below_drew1) | exact HB.out))) : w.heap.size ≤ gb252)); have n3_ := Aside0.mk ((by rw [hg]; exact (below_size (by repeat (first | (with_reducible first | exact HB.out | apply below_alloc | apply pw_below_drewN | apply below_drew1) | exact HB.out))) : w.heap.size ≤ gb252)); clear HB; have HB := n0_; have BK252 := n1_; have GW252 := n2_; have GE252 := n3_; clear n0_ n1_ n2_ n3_; clear hb hbox hg; have hcz9_0 : w8.cell? ⟨gb252, 0, none⟩ = some (.int .u8 0) := (blk_cell BK252.out 0).trans rfl; have hcz9_1 : w8.cell? ⟨gb252, 1, none⟩ = some (.slice none 0 0) := (blk_cell BK252.out 1).trans rfl; have hfz9_0 := blk_frozen BK252.out 0; have hfz9_1 := blk_frozen BK252.out 1))
 (try simp only [Act.put, List.setIfInBounds_toArray, List.set_cons_zero, List.set_cons_succ])
 go_cut [8] (fun v8 wc => ∃ (kq : Nat) (x8_5 : Bool), v8 = .bool x8_5 ∧ Aside0 (kotatsulaw06_DiskRefuses.j0 kq a0 l1 a2 x8_5 a0 = some r) ∧ Aside0 (kq ≤ k) ∧ Aside0 (wc.heap[gb252]? = some (.cells #[.int .u8 a0, (.slice none 0 0)] 30 (0, 0))) ∧ Aside0 (Below w.heap.size w wc))
 case first =>
  have H := HC6.out
  clear HC6
  by_cases c10 : a0 ≥ 1
  rotate_left
  ·rw [if_neg c10] at H
   have c10b0 : decide (1 ≤ a0) = false := decide_eq_false c10
   clear c10
   (first | rw [c10b0] | (simp only [i64_w, i32_w]; rw [c10b0]) | skip)
   have H' := Aside0.mk H
   clear H
   go_wp2
   go_meet
   case rel => exact ⟨_, (false), (by first | rfl | (simp; done) | (simp [*]; done)), H', ⟨by first | omega | exact Nat.le_refl _⟩, ⟨by (with_reducible repeat (first | refine blk_drewN ?_ _ | refine blk_drew ?_ | refine blk_alloc ?_ _)); refine blk_put (cs := #[.int .u8 a0, .slice none 0 0]) ?_ 1 _ rfl; (with_reducible repeat (first | refine blk_drewN ?_ _ | refine blk_drew ?_ | refine blk_alloc ?_ _)); refine blk_put (cs := #[.int .u8 0, .slice none 0 0]) ?_ 0 _ rfl; (with_reducible repeat (first | refine blk_drewN ?_ _ | refine blk_drew ?_ | refine blk_alloc ?_ _)); exact BK252.out⟩, ⟨by repeat (first | (with_reducible first | exact HB.out | apply below_alloc | apply pw_below_drewN | apply below_drew1 | refine below_set ?_ GE252.out) | exact HB.out)⟩⟩
  rw [if_pos c10] at H
  have c10b0 : decide (1 ≤ a0) = true := decide_eq_true c10
  clear c10
  (first | rw [c10b0] | (simp only [i64_w, i32_w]; rw [c10b0]) | skip)
  by_cases c11 : a0 ≤ 3
  rotate_left
  ·rw [if_neg c11] at H
   have c11b0 : decide (a0 ≤ 3) = false := decide_eq_false c11
   clear c11
   have H' := Aside0.mk H
   clear H
   go_wp2
   go_meet
   case rel => exact ⟨_, (false), (by first | rfl | (simp; done) | (simp [*]; done)), H', ⟨by first | omega | exact Nat.le_refl _⟩, ⟨by (with_reducible repeat (first | refine blk_drewN ?_ _ | refine blk_drew ?_ | refine blk_alloc ?_ _)); refine blk_put (cs := #[.int .u8 a0, .slice none 0 0]) ?_ 1 _ rfl; (with_reducible repeat (first | refine blk_drewN ?_ _ | refine blk_drew ?_ | refine blk_alloc ?_ _)); refine blk_put (cs := #[.int .u8 0, .slice none 0 0]) ?_ 0 _ rfl; (with_reducible repeat (first | refine blk_drewN ?_ _ | refine blk_drew ?_ | refine blk_alloc ?_ _)); exact BK252.out⟩, ⟨by repeat (first | (with_reducible first | exact HB.out | apply below_alloc | apply pw_below_drewN | apply below_drew1 | refine below_set ?_ GE252.out) | exact HB.out)⟩⟩
  rw [if_pos c11] at H
  have c11b0 : decide (a0 ≤ 3) = true := decide_eq_true c11
  clear c11
  by_cases c12 : (l1.length : Int) ≥ 1
  rotate_left
  ·rw [if_neg c12] at H
   have c12b0 : decide (1 ≤ (l1.length : Int)) = false := decide_eq_false c12
   have c12b1 : decide (1 ≤ l1.length) = false := decide_eq_false (by omega)
   clear c12
   have H' := Aside0.mk H
   clear H
   go_wp2
   go_meet
   case rel => exact ⟨_, (false), (by first | rfl | (simp; done) | (simp [*]; done)), H', ⟨by first | omega | exact Nat.le_refl _⟩, ⟨by (with_reducible repeat (first | refine blk_drewN ?_ _ | refine blk_drew ?_ | refine blk_alloc ?_ _)); refine blk_put (cs := #[.int .u8 a0, .slice none 0 0]) ?_ 1 _ rfl; (with_reducible repeat (first | refine blk_drewN ?_ _ | refine blk_drew ?_ | refine blk_alloc ?_ _)); refine blk_put (cs := #[.int .u8 0, .slice none 0 0]) ?_ 0 _ rfl; (with_reducible repeat (first | refine blk_drewN ?_ _ | refine blk_drew ?_ | refine blk_alloc ?_ _)); exact BK252.out⟩, ⟨by repeat (first | (with_reducible first | exact HB.out | apply below_alloc | apply pw_below_drewN | apply below_drew1 | refine below_set ?_ GE252.out) | exact HB.out)⟩⟩
  rw [if_pos c12] at H
  have c12b0 : decide (1 ≤ (l1.length : Int)) = true := decide_eq_true c12
  have c12b1 : decide (1 ≤ l1.length) = true := decide_eq_true (by omega)
  clear c12
  have H' := Aside0.mk H
  clear H
  go_wp2
  go_meet
  case rel => exact ⟨_, (decide ((l1.length : Int) ≤ 8)), (by first | rfl | (simp; done) | (simp [*]; done)), H', ⟨by first | omega | exact Nat.le_refl _⟩, ⟨by (with_reducible repeat (first | refine blk_drewN ?_ _ | refine blk_drew ?_ | refine blk_alloc ?_ _)); refine blk_put (cs := #[.int .u8 a0, .slice none 0 0]) ?_ 1 _ rfl; (with_reducible repeat (first | refine blk_drewN ?_ _ | refine blk_drew ?_ | refine blk_alloc ?_ _)); refine blk_put (cs := #[.int .u8 0, .slice none 0 0]) ?_ 0 _ rfl; (with_reducible repeat (first | refine blk_drewN ?_ _ | refine blk_drew ?_ | refine blk_alloc ?_ _)); exact BK252.out⟩, ⟨by repeat (first | (with_reducible first | exact HB.out | apply below_alloc | apply pw_below_drewN | apply below_drew1 | refine below_set ?_ GE252.out) | exact HB.out)⟩⟩
 clear HC6
 try clear c1
 try clear p2
 try clear c5
 try clear c7
 try clear c9
 try clear c10
 try clear c10b0
 try clear c11
 try clear c11b0
 try clear c12
 try clear c12b0
 try clear c12b1
 try clear hcz9_0
 try clear hcz9_1
 try clear hfz9_0
 try clear hfz9_1
 obtain ⟨kq, x8_5, rfl, HA, HJ5, BK252, HB⟩ := hcut
 cases kq with
 | zero => exact absurd HA.out (by simp [kotatsulaw06_DiskRefuses.j0])
 | succ kj5 =>
  have H := HA.out
  clear HA
  simp only [kotatsulaw06_DiskRefuses.j0] at H
  have H' := Aside0.mk H
  clear H
  go_wp2
  go_loopg [8, 46] kj5 (fun kq v8 v46 w' => ∃ (x8_2 : Bool) (x46_2 : Int) (x253001_2 : List (List Int)) (u253001 : Value), v8 = .bool x8_2 ∧ v46 = .int .i64 x46_2 ∧ Aside0 (kotatsulaw06_DiskRefuses.l0 kq a0 a2 x8_2 l1 (l1.length : Int) x46_2 a0 x253001_2 = some r) ∧ Aside0 (kq ≤ kj5) ∧ Aside0 (Kd.N (Kd.slice 5 (Kd.int .u8)) 22 w' w.heap.size (fun k_ => k_ ≠ gb252) u253001 x253001_2) ∧ Aside0 (w'.heap[gb252]? = some (.cells #[.int .u8 a0, u253001] 30 (0, 0))) ∧ Aside0 (Below w.heap.size w w'))
  case atStart => exact ⟨(x8_5), (0), (([] : List (List Int))), (.slice none 0 0), (by first | rfl | (simp; done) | (simp [*]; done)), (by first | rfl | (simp; done) | (simp [*]; done)), H', ⟨Nat.le_refl _⟩, ⟨by first | exact Kd.S_nil _ _ _ _ _ | exact Kd.N_nil _ _ _ _ _ | exact Kd.V_nil _ _ _ _ _ | exact Kd.Q_nil _ _ _ _ _ | exact Kd.R_nil _ _ _ _ _⟩, ⟨by (with_reducible repeat (first | refine blk_drewN ?_ _ | refine blk_drew ?_ | refine blk_alloc ?_ _)); exact BK252.out⟩, ⟨by repeat (first | (with_reducible first | exact HB.out | apply below_alloc | apply pw_below_drewN | apply below_drew1 | refine below_set ?_ GE252.out) | exact HB.out)⟩⟩
  clear H'
  try clear c1
  try clear p2
  try clear c5
  try clear c7
  try clear c9
  try clear c10
  try clear c10b0
  try clear c11
  try clear c11b0
  try clear c12
  try clear c12b0
  try clear c12b1
  try clear hcz9_0
  try clear hcz9_1
  try clear hfz9_0
  try clear hfz9_1
  try clear p2
  obtain ⟨x8_2, x46_2, x253001_2, u253001, rfl, rfl, HA, HK2, HO_253001, BK252, HB⟩ := hrel
  cases gk with
  | zero => exact absurd HA.out (by simp [kotatsulaw06_DiskRefuses.l0])
  | succ k2 =>
   have H := HA.out
   clear HA
   simp only [kotatsulaw06_DiskRefuses.l0] at H
   by_cases c13 : x46_2 < (l1.length : Int)
   ·rw [if_pos c13] at H
    have c13b0 : decide (x46_2 < (l1.length : Int)) = true := decide_eq_true c13
    clear c13
    have HC14 := Aside0.mk H
    clear H
    go_upto_block 1 with (fail)
    go_cut [8] (fun v8 wc => ∃ (kq : Nat) (x8_13 : Bool) (x253001_13 : List (List Int)) (u253001 : Value), v8 = .bool x8_13 ∧ Aside0 (kotatsulaw06_DiskRefuses.j3 kq a0 a2 x8_13 l1 (l1.length : Int) x46_2 a0 x253001_13 = some r) ∧ Aside0 (kq ≤ k2) ∧ Aside0 (Kd.N (Kd.slice 5 (Kd.int .u8)) 22 wc w.heap.size (fun k_ => k_ ≠ gb252) u253001 x253001_13) ∧ Aside0 (wc.heap[gb252]? = some (.cells #[.int .u8 a0, u253001] 30 (0, 0))) ∧ Aside0 (Below w.heap.size w wc))
    case first =>
     have H := HC14.out
     clear HC14
     by_cases c15 : 0 ≤ x46_2
     rotate_left
     ·rw [if_neg c15] at H
      exact absurd H (by simp)
     rw [if_pos c15] at H
     have c15b0 : decide (0 ≤ x46_2) = true := decide_eq_true c15
     clear c15
     (first | rw [c15b0] | (simp only [i64_w, i32_w]; rw [c15b0]) | skip)
     by_cases c16 : x46_2 < (l1.length : Int)
     rotate_left
     ·rw [if_neg c16] at H
      exact absurd H (by simp)
     rw [if_pos c16] at H
     have c16b0 : decide (x46_2 < (l1.length : Int)) = true := decide_eq_true c16
     clear c16
     by_cases c17 : x46_2 < 10
     rotate_left
     ·rw [if_neg c17] at H
      have c17b0 : decide (x46_2 < 10) = false := decide_eq_false c17
      clear c17
      have H' := Aside0.mk H
      clear H
      have p253 : 0 ≤ (x46_2 : Int) := of_decide_eq_true (by first | (with_reducible assumption) | assumption)
      have q253 : x46_2 < (l1.length : Int) := of_decide_eq_true (by first | (with_reducible assumption) | assumption)
      obtain ⟨ad253, e253, hx253_0⟩ := Kd.at_int HR1.out x46_2 p253 q253
      cases e253
      replace hx253_0 := (HB.out.cell (World.block_lt_of_cell? w _ hx253_0)).trans hx253_0
      replace p253 := eq_true p253
      replace q253 := eq_true q253
      go_wp2
      go_meet
      case rel => exact ⟨_, (x8_2), (x253001_2), (u253001), (by first | rfl | (simp; done) | (simp [*]; done)), H', ⟨by have := HJ5.out; have := HK2.out; first | omega | exact Nat.le_refl _⟩, ⟨by (with_reducible repeat (first | apply Kd.N_alloc | apply Kd.N_drewN | apply Kd.N_drew)); exact HO_253001.out⟩, ⟨by (with_reducible repeat (first | refine blk_drewN ?_ _ | refine blk_drew ?_ | refine blk_alloc ?_ _)); exact BK252.out⟩, ⟨by repeat (first | (with_reducible first | exact HB.out | apply below_alloc | apply pw_below_drewN | apply below_drew1 | refine below_set ?_ GE252.out) | exact HB.out)⟩⟩
     rw [if_pos c17] at H
     have c17b0 : decide (x46_2 < 10) = true := decide_eq_true c17
     clear c17
     obtain ⟨y254, hy254⟩ : ∃ y_ : List Int, y_ = (([65500, 65536, 65500, wrap64 (rd l1 x46_2)] : List Int)) := ⟨_, rfl⟩
     replace H : (if 0 ≤ (Int.tmod (rd l1 x46_2) 4) then (if (Int.tmod (rd l1 x46_2) 4) < (y254.length : Int) then (if x8_2 = true then (if (rd y254 (Int.tmod (rd l1 x46_2) 4)) = 65500 then (if a0 < 3 then (kotatsulaw06_DiskRefuses.j2 k2 a0 a2 true (rd y254 (Int.tmod (rd l1 x46_2) 4)) l1 (l1.length : Int) x46_2 a0 x253001_2) else (if (rd y254 (Int.tmod (rd l1 x46_2) 4)) = 65536 then (kotatsulaw06_DiskRefuses.j2 k2 a0 a2 (a0 == 3) (rd y254 (Int.tmod (rd l1 x46_2) 4)) l1 (l1.length : Int) x46_2 a0 x253001_2) else (kotatsulaw06_DiskRefuses.j2 k2 a0 a2 false (rd y254 (Int.tmod (rd l1 x46_2) 4)) l1 (l1.length : Int) x46_2 a0 x253001_2))) else (if (rd y254 (Int.tmod (rd l1 x46_2) 4)) = 65536 then (kotatsulaw06_DiskRefuses.j2 k2 a0 a2 (a0 == 3) (rd y254 (Int.tmod (rd l1 x46_2) 4)) l1 (l1.length : Int) x46_2 a0 x253001_2) else (kotatsulaw06_DiskRefuses.j2 k2 a0 a2 false (rd y254 (Int.tmod (rd l1 x46_2) 4)) l1 (l1.length : Int) x46_2 a0 x253001_2))) else (kotatsulaw06_DiskRefuses.j2 k2 a0 a2 false (rd y254 (Int.tmod (rd l1 x46_2) 4)) l1 (l1.length : Int) x46_2 a0 x253001_2)) else (none)) else (none)) = some r := by first | (rw [hy254]; with_reducible exact H) | (have H2_ := (Option.bind_some _ _).symm.trans H; rw [hy254]; with_reducible exact H2_) | (have H2_ := (Option.bind_some _ _).symm.trans H; with_reducible exact H2_) | with_reducible exact H | (rw [hy254]; exact H) | exact H
     have Ny254 := Aside0.mk hy254
     clear hy254
     obtain ⟨ji18, hji18⟩ : ∃ j_ : Int, (Int.tmod (rd l1 x46_2) 4) = j_ := ⟨_, rfl⟩
     replace H : (if 0 ≤ (ji18) then (if (ji18) < (y254.length : Int) then (if x8_2 = true then (if (rd y254 (ji18)) = 65500 then (if a0 < 3 then (kotatsulaw06_DiskRefuses.j2 k2 a0 a2 true (rd y254 (ji18)) l1 (l1.length : Int) x46_2 a0 x253001_2) else (if (rd y254 (ji18)) = 65536 then (kotatsulaw06_DiskRefuses.j2 k2 a0 a2 (a0 == 3) (rd y254 (ji18)) l1 (l1.length : Int) x46_2 a0 x253001_2) else (kotatsulaw06_DiskRefuses.j2 k2 a0 a2 false (rd y254 (ji18)) l1 (l1.length : Int) x46_2 a0 x253001_2))) else (if (rd y254 (ji18)) = 65536 then (kotatsulaw06_DiskRefuses.j2 k2 a0 a2 (a0 == 3) (rd y254 (ji18)) l1 (l1.length : Int) x46_2 a0 x253001_2) else (kotatsulaw06_DiskRefuses.j2 k2 a0 a2 false (rd y254 (ji18)) l1 (l1.length : Int) x46_2 a0 x253001_2))) else (kotatsulaw06_DiskRefuses.j2 k2 a0 a2 false (rd y254 (ji18)) l1 (l1.length : Int) x46_2 a0 x253001_2)) else (none)) else (none)) = some r := by first | (rw [hji18] at H; exact H) | (simp only [hji18] at H ⊢; exact H)
     by_cases c19 : 0 ≤ (ji18)
     rotate_left
     ·rw [if_neg c19] at H
      exact absurd H (by simp)
     rw [if_pos c19] at H
     have c19b0 : decide (0 ≤ (ji18)) = true := decide_eq_true c19
     clear c19
     by_cases c20 : (ji18) < (y254.length : Int)
     rotate_left
     ·rw [if_neg c20] at H
      exact absurd H (by simp)
     rw [if_pos c20] at H
     have c20b0 : decide ((ji18) < (y254.length : Int)) = true := decide_eq_true c20
     clear c20
     have HC21 := Aside0.mk H
     clear H
     have p253 : 0 ≤ (x46_2 : Int) := of_decide_eq_true (by first | (with_reducible assumption) | assumption)
     have q253 : x46_2 < (l1.length : Int) := of_decide_eq_true (by first | (with_reducible assumption) | assumption)
     obtain ⟨ad253, e253, hx253_0⟩ := Kd.at_int HR1.out x46_2 p253 q253
     cases e253
     replace hx253_0 := (HB.out.cell (World.block_lt_of_cell? w _ hx253_0)).trans hx253_0
     replace p253 := eq_true p253
     replace q253 := eq_true q253
     go_upto_region 10 with (first | ((with_reducible refine gate_dst (N := 55) rfl ?_); (try (refine gate_guard (by rfl) ?_; dsimp only)); refine Kd.R_lit (Kd.int .i64) _ 3 ?hg (N := 55) ?hd (xs := ([65500, 65536, 65500, wrap64 (rd l1 x46_2)] : List Int)) (inner := [.int .i64 65500, .int .i64 65536, .int .i64 65500, .int .i64 (wrap64 (rd l1 x46_2))]) (ok := fun _ => True) (okp := fun _ => True) ?hr ?hp (fun _ hk => hk) trivial (Below.refl _ _) (Nat.le_refl _) (by simp) ?_; (case hd => rfl); (case hg => rfl); (case hr => first | (go_simp; done) | (go_simp; rfl)); (case hp => exact (Reps.one (show Kd.M (Kd.int .i64) _ _ _ 65500 [.int .i64 65500] from rfl) (Reps.one (show Kd.M (Kd.int .i64) _ _ _ 65536 [.int .i64 65536] from rfl) (Reps.one (show Kd.M (Kd.int .i64) _ _ _ 65500 [.int .i64 65500] from rfl) (Reps.one (show Kd.M (Kd.int .i64) _ _ _ (wrap64 (rd l1 x46_2)) [.int .i64 (wrap64 (rd l1 x46_2))] from rfl) (Reps.none _ _)))))); intro v255 w22 ho23 hb hg_ hnew_; clear hg_ hnew_; (first | rw [← Ny254.out] at ho23 | (simp only [Int.reduceToNat] at ho23; rw [← Ny254.out] at ho23)); have n0_ := Aside0.mk (Kd.N_elder' (by (with_reducible repeat (first | apply Kd.N_alloc | apply Kd.N_drewN | apply Kd.N_drew)); exact HO_253001.out) (Kd.R_base ho23) hb); have n1_ := Aside0.mk (Kd.R_lower ho23 (below_size (by repeat (first | (with_reducible first | exact HB.out | apply below_alloc | apply pw_below_drewN | apply below_drew1 | refine below_set ?_ GE252.out) | exact HB.out)))); have n2_ := Aside0.mk (blk_below (g := gb252) (o := .cells #[.int .u8 a0, u253001] 30 (0, 0)) (by (with_reducible repeat (first | refine blk_drewN ?_ _ | refine blk_drew ?_ | refine blk_alloc ?_ _)); exact BK252.out) hb); have n3_ := Aside0.mk (below_step (by repeat (first | (with_reducible first | exact HB.out | apply below_alloc | apply pw_below_drewN | apply below_drew1 | refine below_set ?_ GE252.out) | exact HB.out)) hb); clear HO_253001; clear BK252; clear HB; have HO_253001 := n0_; have HO256 := n1_; have BK252 := n2_; have HB := n3_; clear n0_ n1_ n2_ n3_; clear hb ho23; obtain ⟨Ao24, co24, eo24⟩ := Kd.R_slice HO256.out; subst eo24; have p257 : 0 ≤ ((ji18) : Int) := of_decide_eq_true (by first | (with_reducible assumption) | assumption); have q257 : (ji18) < (y254.length : Int) := of_decide_eq_true (by first | (with_reducible assumption) | assumption); obtain ⟨ad257, e257, hx257_0⟩ := Kd.at_int (Kd.R_reads' HO256.out).2.2 (ji18) p257 q257; cases e257; replace p257 := eq_true p257; replace q257 := eq_true q257))
     (try simp only [Act.put, List.setIfInBounds_toArray, List.set_cons_zero, List.set_cons_succ])
     go_cut [8] (fun v8 wc => ∃ (kq : Nat) (x8_20 : Bool), v8 = .bool x8_20 ∧ Aside0 (kotatsulaw06_DiskRefuses.j2 kq a0 a2 x8_20 (rd y254 (ji18)) l1 (l1.length : Int) x46_2 a0 x253001_2 = some r) ∧ Aside0 (kq ≤ k2) ∧ Aside0 (Kd.N (Kd.slice 5 (Kd.int .u8)) 22 wc w.heap.size (fun k_ => k_ ≠ gb252) u253001 x253001_2) ∧ Aside0 (wc.heap[gb252]? = some (.cells #[.int .u8 a0, u253001] 30 (0, 0))) ∧ Aside0 (Below w.heap.size w wc))
     case first =>
      have H := HC21.out
      clear HC21
      by_cases c25 : x8_2 = true
      rotate_left
      ·replace c25 := Bool.eq_false_iff.mpr c25
       subst c25
       have H1 : (kotatsulaw06_DiskRefuses.j2 k2 a0 a2 false (rd y254 (ji18)) l1 (l1.length : Int) x46_2 a0 x253001_2) = some r := by rw [if_neg (show ¬ (false = true) by decide)] at H; exact H
       clear H
       have H := H1
       clear H1
       have H' := Aside0.mk H
       clear H
       go_wp2
       go_meet
       case rel => exact ⟨_, (false), (by first | rfl | (simp; done) | (simp [*]; done)), H', ⟨by have := HJ5.out; have := HK2.out; first | omega | exact Nat.le_refl _⟩, ⟨by (with_reducible repeat (first | apply Kd.N_alloc | apply Kd.N_drewN | apply Kd.N_drew)); exact Kd.N_mono HO_253001.out (fun _ hk => hk.1)⟩, ⟨by (with_reducible repeat (first | refine blk_drewN ?_ _ | refine blk_drew ?_ | refine blk_alloc ?_ _)); exact BK252.out⟩, ⟨by repeat (first | (with_reducible first | exact HB.out | apply below_alloc | apply pw_below_drewN | apply below_drew1 | refine below_set ?_ GE252.out) | exact HB.out)⟩⟩
      subst c25
      have H1 : (if (rd y254 (ji18)) = 65500 then (if a0 < 3 then (kotatsulaw06_DiskRefuses.j2 k2 a0 a2 true (rd y254 (ji18)) l1 (l1.length : Int) x46_2 a0 x253001_2) else (if (rd y254 (ji18)) = 65536 then (kotatsulaw06_DiskRefuses.j2 k2 a0 a2 (a0 == 3) (rd y254 (ji18)) l1 (l1.length : Int) x46_2 a0 x253001_2) else (kotatsulaw06_DiskRefuses.j2 k2 a0 a2 false (rd y254 (ji18)) l1 (l1.length : Int) x46_2 a0 x253001_2))) else (if (rd y254 (ji18)) = 65536 then (kotatsulaw06_DiskRefuses.j2 k2 a0 a2 (a0 == 3) (rd y254 (ji18)) l1 (l1.length : Int) x46_2 a0 x253001_2) else (kotatsulaw06_DiskRefuses.j2 k2 a0 a2 false (rd y254 (ji18)) l1 (l1.length : Int) x46_2 a0 x253001_2))) = some r := by rw [if_pos rfl] at H; exact H
      clear H
      have H := H1
      clear H1
      by_cases c26 : (rd y254 (ji18)) = 65500
      rotate_left
      ·rw [if_neg c26] at H
       have c26b0 : ((rd y254 (ji18)) == 65500) = false := beq_eq_false_iff_ne.mpr c26
       have c26b1 : ((rd y254 (ji18)) != 65500) = true := bne_iff_ne.mpr c26
       (first | rw [c26b0] | (simp only [i64_w, i32_w]; rw [c26b0]) | skip)
       by_cases c29 : (rd y254 (ji18)) = 65536
       rotate_left
       ·rw [if_neg c29] at H
        have c29b0 : ((rd y254 (ji18)) == 65536) = false := beq_eq_false_iff_ne.mpr c29
        have c29b1 : ((rd y254 (ji18)) != 65536) = true := bne_iff_ne.mpr c29
        have H' := Aside0.mk H
        clear H
        go_wp2
        go_meet
        case rel => exact ⟨_, (false), (by first | rfl | (simp; done) | (simp [*]; done)), H', ⟨by have := HJ5.out; have := HK2.out; first | omega | exact Nat.le_refl _⟩, ⟨by (with_reducible repeat (first | apply Kd.N_alloc | apply Kd.N_drewN | apply Kd.N_drew)); exact Kd.N_mono HO_253001.out (fun _ hk => hk.1)⟩, ⟨by (with_reducible repeat (first | refine blk_drewN ?_ _ | refine blk_drew ?_ | refine blk_alloc ?_ _)); exact BK252.out⟩, ⟨by repeat (first | (with_reducible first | exact HB.out | apply below_alloc | apply pw_below_drewN | apply below_drew1 | refine below_set ?_ GE252.out) | exact HB.out)⟩⟩
       rw [if_pos c29] at H
       have c29b0 : ((rd y254 (ji18)) == 65536) = true := beq_iff_eq.mpr c29
       have c29b1 : ((rd y254 (ji18)) != 65536) = false := bne_eq_false_iff_eq.mpr c29
       clear c29
       have H' := Aside0.mk H
       clear H
       go_wp2
       go_meet
       case rel => exact ⟨_, ((a0 == 3)), (by first | rfl | (simp; done) | (simp [*]; done)), H', ⟨by have := HJ5.out; have := HK2.out; first | omega | exact Nat.le_refl _⟩, ⟨by (with_reducible repeat (first | apply Kd.N_alloc | apply Kd.N_drewN | apply Kd.N_drew)); exact Kd.N_mono HO_253001.out (fun _ hk => hk.1)⟩, ⟨by (with_reducible repeat (first | refine blk_drewN ?_ _ | refine blk_drew ?_ | refine blk_alloc ?_ _)); exact BK252.out⟩, ⟨by repeat (first | (with_reducible first | exact HB.out | apply below_alloc | apply pw_below_drewN | apply below_drew1 | refine below_set ?_ GE252.out) | exact HB.out)⟩⟩
      rw [if_pos c26] at H
      have c26b0 : ((rd y254 (ji18)) == 65500) = true := beq_iff_eq.mpr c26
      have c26b1 : ((rd y254 (ji18)) != 65500) = false := bne_eq_false_iff_eq.mpr c26
      clear c26
      (first | rw [c26b0] | (simp only [i64_w, i32_w]; rw [c26b0]) | skip)
      by_cases c27 : a0 < 3
      ·rw [if_pos c27] at H
       have c27b0 : decide (a0 < 3) = true := decide_eq_true c27
       clear c27
       have H' := Aside0.mk H
       clear H
       go_wp2
       go_meet
       case rel => exact ⟨_, (true), (by first | rfl | (simp; done) | (simp [*]; done)), H', ⟨by have := HJ5.out; have := HK2.out; first | omega | exact Nat.le_refl _⟩, ⟨by (with_reducible repeat (first | apply Kd.N_alloc | apply Kd.N_drewN | apply Kd.N_drew)); exact Kd.N_mono HO_253001.out (fun _ hk => hk.1)⟩, ⟨by (with_reducible repeat (first | refine blk_drewN ?_ _ | refine blk_drew ?_ | refine blk_alloc ?_ _)); exact BK252.out⟩, ⟨by repeat (first | (with_reducible first | exact HB.out | apply below_alloc | apply pw_below_drewN | apply below_drew1 | refine below_set ?_ GE252.out) | exact HB.out)⟩⟩
      rw [if_neg c27] at H
      have c27b0 : decide (a0 < 3) = false := decide_eq_false c27
      clear c27
      by_cases c28 : (rd y254 (ji18)) = 65536
      rotate_left
      ·rw [if_neg c28] at H
       have c28b0 : ((rd y254 (ji18)) == 65536) = false := beq_eq_false_iff_ne.mpr c28
       have c28b1 : ((rd y254 (ji18)) != 65536) = true := bne_iff_ne.mpr c28
       have H' := Aside0.mk H
       clear H
       go_wp2
       go_meet
       case rel => exact ⟨_, (false), (by first | rfl | (simp; done) | (simp [*]; done)), H', ⟨by have := HJ5.out; have := HK2.out; first | omega | exact Nat.le_refl _⟩, ⟨by (with_reducible repeat (first | apply Kd.N_alloc | apply Kd.N_drewN | apply Kd.N_drew)); exact Kd.N_mono HO_253001.out (fun _ hk => hk.1)⟩, ⟨by (with_reducible repeat (first | refine blk_drewN ?_ _ | refine blk_drew ?_ | refine blk_alloc ?_ _)); exact BK252.out⟩, ⟨by repeat (first | (with_reducible first | exact HB.out | apply below_alloc | apply pw_below_drewN | apply below_drew1 | refine below_set ?_ GE252.out) | exact HB.out)⟩⟩
      rw [if_pos c28] at H
      have c28b0 : ((rd y254 (ji18)) == 65536) = true := beq_iff_eq.mpr c28
      have c28b1 : ((rd y254 (ji18)) != 65536) = false := bne_eq_false_iff_eq.mpr c28
      clear c28
      have H' := Aside0.mk H
      clear H
      go_wp2
      go_meet
      case rel => exact ⟨_, ((a0 == 3)), (by first | rfl | (simp; done) | (simp [*]; done)), H', ⟨by have := HJ5.out; have := HK2.out; first | omega | exact Nat.le_refl _⟩, ⟨by (with_reducible repeat (first | apply Kd.N_alloc | apply Kd.N_drewN | apply Kd.N_drew)); exact Kd.N_mono HO_253001.out (fun _ hk => hk.1)⟩, ⟨by (with_reducible repeat (first | refine blk_drewN ?_ _ | refine blk_drew ?_ | refine blk_alloc ?_ _)); exact BK252.out⟩, ⟨by repeat (first | (with_reducible first | exact HB.out | apply below_alloc | apply pw_below_drewN | apply below_drew1 | refine below_set ?_ GE252.out) | exact HB.out)⟩⟩
     clear HC21
     try clear c1
     try clear c2
     try clear p2
     try clear q2
     try clear hx2
     try clear c5
     try clear p6
     try clear c7
     try clear c9
     try clear c10
     try clear c10b0
     try clear c11
     try clear c11b0
     try clear c12
     try clear c12b0
     try clear c12b1
     try clear c13
     try clear c13b0
     try clear c15
     try clear c15b0
     try clear c16
     try clear c16b0
     try clear c17
     try clear c17b0
     try clear c19
     try clear c19b0
     try clear c20
     try clear c20b0
     try clear c25
     try clear p25
     try clear q25
     try clear hx25
     try clear c26
     try clear c26b0
     try clear c26b1
     try clear c27
     try clear c27b0
     try clear c28
     try clear c28b0
     try clear c28b1
     try clear c29
     try clear c29b0
     try clear c29b1
     try clear hcz9_0
     try clear hcz9_1
     try clear hfz9_0
     try clear hfz9_1
     try clear hx253_0
     try clear hx257_0
     try clear p2
     try clear p253
     try clear p257
     try clear q253
     try clear q257
     obtain ⟨kq, x8_20, rfl, HA, HJ20, HO_253001, BK252, HB⟩ := hcut
     cases kq with
     | zero => exact absurd HA.out (by simp [kotatsulaw06_DiskRefuses.j2])
     | succ kj20 =>
      have H := HA.out
      clear HA
      simp only [kotatsulaw06_DiskRefuses.j2] at H
      by_cases c30 : 0 ≤ (rd y254 (ji18))
      rotate_left
      ·rw [if_neg c30] at H
       exact absurd H (by simp)
      rw [if_pos c30] at H
      have c30b0 := eq_true c30
      have c30b1 : decide (0 ≤ (rd y254 (ji18))) = true := decide_eq_true c30
      clear c30
      by_cases c31 : ((rd y254 (ji18)) : Int).toNat ≤ 281474976710656
      rotate_left
      ·rw [if_neg c31] at H
       exact absurd H (by simp)
      rw [if_pos c31] at H
      have c31b0 := eq_true c31
      have c31b1 : decide (((rd y254 (ji18)) : Int).toNat ≤ 281474976710656) = true := decide_eq_true c31
      clear c31
      obtain ⟨y258, hy258⟩ : ∃ y_ : List Int, y_ = (List.replicate ((rd y254 (ji18)) : Int).toNat 0) := ⟨_, rfl⟩
      replace H : (if x253001_2.length < 5864062014805 then (kotatsulaw06_DiskRefuses.j3 kj20 a0 a2 x8_20 l1 (l1.length : Int) x46_2 a0 (x253001_2 ++ [y258])) else (none)) = some r := by first | (rw [hy258]; with_reducible exact H) | (have H2_ := (Option.bind_some _ _).symm.trans H; rw [hy258]; with_reducible exact H2_) | (have H2_ := (Option.bind_some _ _).symm.trans H; with_reducible exact H2_) | with_reducible exact H | (rw [hy258]; exact H) | exact H
      have Ny258 := Aside0.mk hy258
      clear hy258
      by_cases c32 : x253001_2.length < 5864062014805
      rotate_left
      ·rw [if_neg c32] at H
       exact absurd H (by simp)
      rw [if_pos c32] at H
      have LMc32 := Aside0.mk c32
      clear c32
      obtain ⟨y261, hy261⟩ : ∃ y_ : List (List Int), y_ = (x253001_2 ++ [y258]) := ⟨_, rfl⟩
      replace H : (kotatsulaw06_DiskRefuses.j3 kj20 a0 a2 x8_20 l1 (l1.length : Int) x46_2 a0 y261) = some r := by first | (rw [hy261]; with_reducible exact H) | (have H2_ := (Option.bind_some _ _).symm.trans H; rw [hy261]; with_reducible exact H2_) | (have H2_ := (Option.bind_some _ _).symm.trans H; with_reducible exact H2_) | with_reducible exact H | (rw [hy261]; exact H) | exact H
      have Ny261 := Aside0.mk hy261
      clear hy261
      have H' := Aside0.mk H
      clear H
      try go_wp2
      have n0_ := Aside0.mk (Kd.N_drew HO_253001.out)
      have n1_ := Aside0.mk (blk_drew BK252.out)
      have n2_ := Aside0.mk (below_drew1 HB.out)
      clear HO_253001
      clear BK252
      clear HB
      have HO_253001 := n0_
      have BK252 := n1_
      have HB := n2_
      clear n0_ n1_ n2_
      refine start_ (n := 8) (S := fun w' => w'.cell? ⟨gb252, 0, none⟩ = some (.int .u8 a0) ∧ w'.cell? ⟨gb252, 1, none⟩ = some (u253001)) (ds := [7]) #[false, false, false, false, false, false, false, false] (by kernel_rfl) rfl rfl ⟨(blk_cell BK252.out 0).trans rfl, (blk_cell BK252.out 1).trans rfl⟩ (fun hHeld => ?_); refine with_tabW kotatsulaw06_DiskRefuses.tab11 kotatsulaw06_DiskRefuses.bits11 (fun HT_ HW_ => ?_)
      generalize wc.drew = w33 at HO_253001 BK252 HB hHeld ⊢
      refine pure_ (i := 0) (N := some 77) (v := ?_) (a' := ?_) #[true, false, false, false, false, false, false, false] rfl rfl (any_of HT_.out (by kernel_rfl)) (fun _ _ _ h => h) (Or.inl ⟨by rfl, ?_⟩) ?_ ?_
      rotate_left
      ·intro w'
       go_simp
       with_reducible rfl
      rotate_left
      ·simp only [Act.put, qa, qb, qc, i64_w, i32_w]
       rfl
      refine pure_ (i := 2) (N := some 79) (v := ?_) (a' := ?_) #[true, false, true, false, false, false, false, false] rfl rfl (any_of HT_.out (by kernel_rfl)) (fun _ _ _ h => h) (Or.inl ⟨by rfl, ?_⟩) ?_ ?_
      rotate_left
      ·intro w'
       go_simp
       with_reducible rfl
      rotate_left
      ·simp only [Act.put, qa, qb, qc, i64_w, i32_w]
       rfl
      refine take_ (i := 1) (N := some 78) (v := ?_) (a' := ?_) #[true, true, true, false, false, false, false, false] rfl rfl (take_ofW HT_.out HW_.out (by kernel_rfl)) (fun _ _ _ h => h) (Or.inl ⟨by rfl, ?_⟩) hHeld ?_ ?_
      rotate_left
      ·rintro w' ⟨s0, s1⟩
       go_simp
       with_reducible rfl
      rotate_left
      ·simp only [Act.put, qa, qb, qc, i64_w, i32_w]
       rfl
      refine one_ (i := 3) (N := some 80) #[true, true, true, true, false, false, false, false] rfl rfl (one_of HT_.out (by kernel_rfl)) (by decide) (fun K hK => ?_)
      refine Kd.R_make_step (Kd.int .u8) _ 5 (by rfl) (N := 80) rfl 22 _ _ rfl (rd y254 (ji18)) rfl rfl Try.underlying22 (.int .u8 0) 1 info5 rfl (by decide) (by omega) 0 (ok := fun _ => True) (okp := fun _ => True) rfl (fun _ hk => hk) trivial (of_decide_eq_true (by first | (with_reducible assumption) | assumption)) (Nat.le_trans (Nat.mul_le_mul_right _ (of_decide_eq_true (by first | (with_reducible assumption) | assumption) : (rd y254 (ji18)).toNat ≤ 281474976710656)) (by omega)) (Below.refl _ _) (Nat.le_refl _) ?_
      intro v259 w34 ho35 hb hg_ hnew_
      clear hg_ hnew_
      (first | rw [← Ny258.out] at ho35 | (simp only [Int.reduceToNat] at ho35; rw [← Ny258.out] at ho35))
      have n0_ := Aside0.mk (Kd.N_elder' (by (with_reducible repeat (first | apply Kd.N_alloc | apply Kd.N_drewN | apply Kd.N_drew)); exact HO_253001.out) (Kd.R_base ho35) hb)
      have n1_ := Aside0.mk (Kd.R_lower ho35 (below_size (by repeat (first | (with_reducible first | exact HB.out | apply below_alloc | apply pw_below_drewN | apply below_drew1 | refine below_set ?_ GE252.out) | exact HB.out))))
      have n2_ := Aside0.mk (blk_below (g := gb252) (o := .cells #[.int .u8 a0, u253001] 30 (0, 0)) (by (with_reducible repeat (first | refine blk_drewN ?_ _ | refine blk_drew ?_ | refine blk_alloc ?_ _)); exact BK252.out) hb)
      have n3_ := Aside0.mk (below_step (by repeat (first | (with_reducible first | exact HB.out | apply below_alloc | apply pw_below_drewN | apply below_drew1 | refine below_set ?_ GE252.out) | exact HB.out)) hb)
      clear HO_253001
      clear BK252
      clear HB
      have HO_253001 := n0_
      have HO260 := n1_
      have BK252 := n2_
      have HB := n3_
      clear n0_ n1_ n2_ n3_
      clear hb ho35
      obtain ⟨Ao37, co37, eo37⟩ := Kd.R_slice HO260.out
      (first | subst eo37 | (injection eo37 with f1_ f2_ f3_; have f4_ := f1_.symm; have f5_ := f3_.symm; clear f1_ f2_ f3_; subst f4_; subst f5_))
      refine hK.out _ _ ⟨(blk_cell BK252.out 0).trans rfl, (blk_cell BK252.out 1).trans rfl⟩ (fun hHeld => ?_)
      clear hK K
      refine norm_ (a' := ?_) ?_ ?_
      rotate_left
      ·show Act.put _ (some 80) _ = _
       simp only [Act.put, qa, qb, qc, i64_w, i32_w]
       rfl
      refine one_ (i := 4) (N := some 81) #[true, true, true, true, true, false, false, false] rfl rfl (one_of HT_.out (by kernel_rfl)) (by decide) (fun K hK => ?_)
      refine value_ (w1 := ?_) (v := ?_) (by rfl) rfl ?_ ?_
      rotate_left 2
      ·go_simp
       constructor
       ·rfl
       rfl
      refine hK.out _ _ ⟨(blk_cell (blk_alloc BK252.out _) 0).trans rfl, (blk_cell (blk_alloc BK252.out _) 1).trans rfl⟩ (fun hHeld => ?_)
      clear hK K
      refine norm_ (a' := ?_) ?_ ?_
      rotate_left
      ·show Act.put _ (some 81) _ = _
       simp only [Act.put, qa, qb, qc, i64_w, i32_w]
       rfl
      refine one_ (i := 5) (N := some 82) #[true, true, true, true, true, true, false, false] rfl rfl (one_of HT_.out (by kernel_rfl)) (by decide) (fun K hK => ?_)
      refine Kd.N_append_step (Kd.slice 5 (Kd.int .u8)) (w0 := w) w.heap.size (by rfl) (.tmp 78) (.tmp 81) 28 22 (.slice none 0 0) 24 rfl Try.underlying28 info22 rfl (by decide) (by omega) u253001 x253001_2 y258 [.slice Ao37 y258.length co37] (fun k_ => k_ ≠ gb252) (fun k_ => ((fun k_ => k_ ≠ gb252)) k_ ∧ some k_ ≠ (u253001 : Value).ownBlock) rfl rfl ?aP (fun _ hk => hk) ?aF ?aO ?aB ?aS ?aL ?_
      (case aP => exact (Kd.FK_slice_mk (Kd.R_reads' (Kd.R_mono (ok' := (fun k_ => ((fun k_ => k_ ≠ gb252)) k_ ∧ some k_ ≠ (u253001 : Value).ownBlock)) (Kd.R_types (Kd.R_apart' (HO260.out) (Kd.N_typed HO_253001.out) (by decide)) BK252.out (by decide)) (fun k_ hk => ⟨hk.2, hk.1.2⟩))).2.1 (Kd.R_F (Kd.R_mono (ok' := (fun k_ => ((fun k_ => k_ ≠ gb252)) k_ ∧ some k_ ≠ (u253001 : Value).ownBlock)) (Kd.R_types (Kd.R_apart' (HO260.out) (Kd.N_typed HO_253001.out) (by decide)) BK252.out (by decide)) (fun k_ hk => ⟨hk.2, hk.1.2⟩)))))
      (case aB => exact (by repeat (first | (with_reducible first | exact HB.out | apply below_alloc | apply pw_below_drewN | apply below_drew1 | refine below_set ?_ GE252.out) | exact HB.out)))
      (case aF => exact (fun k_ hk => Kd.freshB (g := gb252) (o := .cells #[.int .u8 a0, u253001] 30 (0, 0)) (by (with_reducible repeat (first | refine blk_drewN ?_ _ | refine blk_drew ?_ | refine blk_alloc ?_ _)); exact BK252.out) k_ hk))
      (case aO => exact (by (with_reducible repeat (first | apply Kd.N_alloc | apply Kd.N_drewN | apply Kd.N_drew)); exact Kd.N_mono HO_253001.out (fun _ hk => hk.1)))
      (case aS => exact (below_size (by repeat (first | (with_reducible first | exact HB.out | apply below_alloc | apply pw_below_drewN | apply below_drew1 | refine below_set ?_ GE252.out) | exact HB.out))))
      (case aL => have := LMc32.out; omega)
      intro v262 w36 ho hb hg hat
      rw [← Ny261.out] at ho
      have n0_ := Aside0.mk (blk_grown (g := gb252) (o := .cells #[.int .u8 a0, u253001] 30 (0, 0)) (by (with_reducible repeat (first | refine blk_drewN ?_ _ | refine blk_drew ?_ | refine blk_alloc ?_ _)); exact BK252.out) hg (Kd.N_ne HO_253001.out BK252.out (by decide)))
      have n1_ := Aside0.mk (hb)
      have n2_ := Aside0.mk (ho)
      clear BK252
      clear HB
      clear HO_253001
      clear HO260
      have BK252 := n0_
      have HB := n1_
      have HO263 := n2_
      clear n0_ n1_ n2_
      clear ho hb hg hat
      obtain ⟨Ao38, co38, eo38⟩ := Kd.N_slice HO263.out
      (first | subst eo38 | (injection eo38 with f1_ f2_ f3_; have f4_ := f1_.symm; have f5_ := f3_.symm; clear f1_ f2_ f3_; subst f4_; subst f5_))
      refine hK.out _ _ ⟨(blk_cell BK252.out 0).trans rfl, (blk_cell BK252.out 1).trans rfl⟩ (fun hHeld => ?_)
      clear hK K
      refine norm_ (a' := ?_) ?_ ?_
      rotate_left
      ·show Act.put _ (some 82) _ = _
       simp only [Act.put, qa, qb, qc, i64_w, i32_w]
       rfl
      refine pure_ (i := 6) (N := some 83) (v := ?_) (a' := ?_) #[true, true, true, true, true, true, true, false] rfl rfl (any_of HT_.out (by kernel_rfl)) (fun _ _ _ h => h) (Or.inl ⟨by rfl, ?_⟩) ?_ ?_
      rotate_left
      ·intro w'
       go_simp
       with_reducible rfl
      rotate_left
      ·simp only [Act.put, qa, qb, qc, i64_w, i32_w]
       rfl
      refine last_ (i := 7) (N := none) #[true, true, true, true, true, true, true, true] rfl rfl (one_of HT_.out (by kernel_rfl)) (by decide) (fun K hK => ?_)
      have hs39 : w36.cell? ⟨gb252, 1, none⟩ = some (u253001) := (blk_cell BK252.out 1).trans rfl
      have hfs39 := blk_frozen BK252.out 1
      refine skip_ (w1 := ?_) (by rfl) rfl ?_ ?_
      rotate_left
      ·go_simp
       rfl
      refine hK.out _ _ ?_
      clear hK K
      refine done_ (done_of HT_.out (by kernel_rfl)) ?_
      try go_wp2
      go_meet
      case rel => exact ⟨_, (x8_20), (y261), (.slice Ao38 y261.length co38), (by first | rfl | (simp; done) | (simp [*]; done)), H', ⟨by have := HJ5.out; have := HK2.out; have := HJ20.out; first | omega | exact Nat.le_refl _⟩, ⟨by (with_reducible repeat (first | apply Kd.N_alloc | apply Kd.N_drewN | apply Kd.N_drew)); exact Kd.N_mono (Kd.N_far (p := ⟨gb252, 1, none⟩) (Kd.N_mono HO263.out (fun k_ hk => (⟨hk, hk⟩ : _ ∧ k_ ≠ gb252))) (fun _ hk => hk.2) (.slice Ao38 y261.length co38)) (fun _ hk => hk.1)⟩, ⟨by (with_reducible repeat (first | refine blk_drewN ?_ _ | refine blk_drew ?_ | refine blk_alloc ?_ _)); refine blk_put (cs := #[.int .u8 a0, u253001]) ?_ 1 _ rfl; (with_reducible repeat (first | refine blk_drewN ?_ _ | refine blk_drew ?_ | refine blk_alloc ?_ _)); exact BK252.out⟩, ⟨by repeat (first | (with_reducible first | exact HB.out | apply below_alloc | apply pw_below_drewN | apply below_drew1 | refine below_set ?_ GE252.out) | exact HB.out)⟩⟩
    clear HC14
    try clear c1
    try clear c2
    try clear p2
    try clear q2
    try clear hx2
    try clear c3
    try clear c5
    try clear p6
    try clear c7
    try clear c9
    try clear c10
    try clear c10b0
    try clear c11
    try clear c11b0
    try clear c12
    try clear c12b0
    try clear c12b1
    try clear c13
    try clear c13b0
    try clear c15
    try clear c15b0
    try clear c16
    try clear c16b0
    try clear c17
    try clear c17b0
    try clear c19
    try clear c19b0
    try clear c20
    try clear c20b0
    try clear c25
    try clear p25
    try clear q25
    try clear hx25
    try clear c26
    try clear c26b0
    try clear c26b1
    try clear c27
    try clear c27b0
    try clear c28
    try clear c28b0
    try clear c28b1
    try clear c29
    try clear c29b0
    try clear c29b1
    try clear c30
    try clear c30b0
    try clear c30b1
    try clear c31
    try clear c31b0
    try clear c31b1
    try clear c32
    try clear hcz9_0
    try clear hcz9_1
    try clear hfz9_0
    try clear hfz9_1
    try clear hx253_0
    try clear hx257_0
    try clear p2
    try clear p25
    try clear p253
    try clear p257
    try clear p6
    try clear q2
    try clear q25
    try clear q253
    try clear q257
    obtain ⟨kq, x8_13, x253001_13, u253001, rfl, HA, HJ13, HO_253001, BK252, HB⟩ := hcut
    cases kq with
    | zero => exact absurd HA.out (by simp [kotatsulaw06_DiskRefuses.j3])
    | succ kj13 =>
     have H := HA.out
     clear HA
     simp only [kotatsulaw06_DiskRefuses.j3] at H
     have H' := Aside0.mk H
     clear H
     go_wp2
     go_roundg kj13
     case measure => have := HJ5.out; have := HK2.out; have := HJ13.out; omega
     case rel => exact ⟨(x8_13), (wrap64 (x46_2 + 1)), (x253001_13), (u253001), (by first | rfl | (simp; done) | (simp [*]; done)), (by first | rfl | (simp; done) | (simp [*]; done)), H', ⟨by have := HJ5.out; have := HK2.out; have := HJ13.out; omega⟩, ⟨by (with_reducible repeat (first | apply Kd.N_alloc | apply Kd.N_drewN | apply Kd.N_drew)); exact HO_253001.out⟩, ⟨by (with_reducible repeat (first | refine blk_drewN ?_ _ | refine blk_drew ?_ | refine blk_alloc ?_ _)); exact BK252.out⟩, ⟨by repeat (first | (with_reducible first | exact HB.out | apply below_alloc | apply pw_below_drewN | apply below_drew1 | refine below_set ?_ GE252.out) | exact HB.out)⟩⟩
   rw [if_neg c13] at H
   have c13b0 : decide (x46_2 < (l1.length : Int)) = false := decide_eq_false c13
   clear c13
   replace H := Option.bind_eq_some_iff.mp H
   obtain ⟨⟨t264, t265, t268⟩, A400, H⟩ := H
   replace H : (if 65536 ≤ 281474976710656 then ((some (([(List.replicate 65536 0)] : List (List Int)) : List (List Int))).bind fun y273 => (if 0 < (y273.length : Int) then (if 0 < ((rd_L1 y273 0).length : Int) then ((disk_Set_To.f k2 3 (y273.set (0 : Int).toNat ((rd_L1 y273 0).set (0 : Int).toNat 1)) 1).bind fun bt282 => (if 65425 ≤ 281474976710656 then ((block_File.f 0 0 (⟨#[]⟩ : ByteArray) 0 0 (List.replicate 65425 0)).bind fun t291 => ((block_Disk.f (⟨#[]⟩ : ByteArray) 0 (([t291] : List (List (S73))))).bind fun t297 => ((block_Side.f k2 t297 65500).bind fun bt300 => (if 65450 ≤ 281474976710656 then ((block_File.f 0 0 (⟨#[]⟩ : ByteArray) 0 0 (List.replicate 65450 0)).bind fun t307 => ((block_Disk.f (⟨#[]⟩ : ByteArray) 0 (([t307] : List (List (S73))))).bind fun t313 => ((disk_Wrap.f k2 t313).bind fun bt316 => ((disk_Set_To.f k2 3 (([bt316.1] : List (List Int))) 1).bind fun bt323 => ((disk_Set_Right.f k2 a0 x253001_2).bind fun t329 => (if (t329 == x8_2) = true then ((disk_Set_Bytes.f k2 a0 x253001_2).bind fun t330 => (if ((decide ((t330.length : Int) > 0)) == x8_2) = true then (if x8_2 = true then (if a2 ≥ 1 then (if ((t268 == 0) == (decide (a2 ≤ 3))) = true then (if t268 = 0 then (if bt282.2.2 = 3 then (if bt300.2 = true then (if (bt300.1.length : Int) = 65500 then (kotatsulaw06_DiskRefuses.j4 k2 (bt323.2.2 == 7)) else (kotatsulaw06_DiskRefuses.j4 k2 false)) else (kotatsulaw06_DiskRefuses.j4 k2 false)) else (kotatsulaw06_DiskRefuses.j4 k2 false)) else (if t268 = 1 then (if bt282.2.2 = 3 then (if bt300.2 = true then (if (bt300.1.length : Int) = 65500 then (kotatsulaw06_DiskRefuses.j4 k2 (bt323.2.2 == 7)) else (kotatsulaw06_DiskRefuses.j4 k2 false)) else (kotatsulaw06_DiskRefuses.j4 k2 false)) else (kotatsulaw06_DiskRefuses.j4 k2 false)) else (kotatsulaw06_DiskRefuses.j4 k2 false))) else (kotatsulaw06_DiskRefuses.j4 k2 false)) else (if ((t268 == 0) == false) = true then (if t268 = 0 then (if bt282.2.2 = 3 then (if bt300.2 = true then (if (bt300.1.length : Int) = 65500 then (kotatsulaw06_DiskRefuses.j4 k2 (bt323.2.2 == 7)) else (kotatsulaw06_DiskRefuses.j4 k2 false)) else (kotatsulaw06_DiskRefuses.j4 k2 false)) else (kotatsulaw06_DiskRefuses.j4 k2 false)) else (if t268 = 1 then (if bt282.2.2 = 3 then (if bt300.2 = true then (if (bt300.1.length : Int) = 65500 then (kotatsulaw06_DiskRefuses.j4 k2 (bt323.2.2 == 7)) else (kotatsulaw06_DiskRefuses.j4 k2 false)) else (kotatsulaw06_DiskRefuses.j4 k2 false)) else (kotatsulaw06_DiskRefuses.j4 k2 false)) else (kotatsulaw06_DiskRefuses.j4 k2 false))) else (kotatsulaw06_DiskRefuses.j4 k2 false))) else (if ((t268 == 0) == false) = true then (if t268 = 0 then (if bt282.2.2 = 3 then (if bt300.2 = true then (if (bt300.1.length : Int) = 65500 then (kotatsulaw06_DiskRefuses.j4 k2 (bt323.2.2 == 7)) else (kotatsulaw06_DiskRefuses.j4 k2 false)) else (kotatsulaw06_DiskRefuses.j4 k2 false)) else (kotatsulaw06_DiskRefuses.j4 k2 false)) else (if t268 = 1 then (if bt282.2.2 = 3 then (if bt300.2 = true then (if (bt300.1.length : Int) = 65500 then (kotatsulaw06_DiskRefuses.j4 k2 (bt323.2.2 == 7)) else (kotatsulaw06_DiskRefuses.j4 k2 false)) else (kotatsulaw06_DiskRefuses.j4 k2 false)) else (kotatsulaw06_DiskRefuses.j4 k2 false)) else (kotatsulaw06_DiskRefuses.j4 k2 false))) else (kotatsulaw06_DiskRefuses.j4 k2 false))) else (kotatsulaw06_DiskRefuses.j4 k2 false))) else (kotatsulaw06_DiskRefuses.j4 k2 false))))))) else (none))))) else (none))) else (none)) else (none))) else (none)) = some r := H
   have A40 := Aside0.mk A400
   clear A400
   by_cases c41 : 65536 ≤ 281474976710656
   rotate_left
   ·rw [if_neg c41] at H
    exact absurd H (by simp)
   rw [if_pos c41] at H
   have c41b0 := eq_true c41
   have c41b1 : decide (65536 ≤ 281474976710656) = true := decide_eq_true c41
   clear c41
   obtain ⟨y270, hy270⟩ : ∃ y_ : List Int, y_ = (List.replicate 65536 0) := ⟨_, rfl⟩
   replace H : ((some (([y270] : List (List Int)) : List (List Int))).bind fun y273 => (if 0 < (y273.length : Int) then (if 0 < ((rd_L1 y273 0).length : Int) then ((disk_Set_To.f k2 3 (y273.set (0 : Int).toNat ((rd_L1 y273 0).set (0 : Int).toNat 1)) 1).bind fun bt282 => (if 65425 ≤ 281474976710656 then ((block_File.f 0 0 (⟨#[]⟩ : ByteArray) 0 0 (List.replicate 65425 0)).bind fun t291 => ((block_Disk.f (⟨#[]⟩ : ByteArray) 0 (([t291] : List (List (S73))))).bind fun t297 => ((block_Side.f k2 t297 65500).bind fun bt300 => (if 65450 ≤ 281474976710656 then ((block_File.f 0 0 (⟨#[]⟩ : ByteArray) 0 0 (List.replicate 65450 0)).bind fun t307 => ((block_Disk.f (⟨#[]⟩ : ByteArray) 0 (([t307] : List (List (S73))))).bind fun t313 => ((disk_Wrap.f k2 t313).bind fun bt316 => ((disk_Set_To.f k2 3 (([bt316.1] : List (List Int))) 1).bind fun bt323 => ((disk_Set_Right.f k2 a0 x253001_2).bind fun t329 => (if (t329 == x8_2) = true then ((disk_Set_Bytes.f k2 a0 x253001_2).bind fun t330 => (if ((decide ((t330.length : Int) > 0)) == x8_2) = true then (if x8_2 = true then (if a2 ≥ 1 then (if ((t268 == 0) == (decide (a2 ≤ 3))) = true then (if t268 = 0 then (if bt282.2.2 = 3 then (if bt300.2 = true then (if (bt300.1.length : Int) = 65500 then (kotatsulaw06_DiskRefuses.j4 k2 (bt323.2.2 == 7)) else (kotatsulaw06_DiskRefuses.j4 k2 false)) else (kotatsulaw06_DiskRefuses.j4 k2 false)) else (kotatsulaw06_DiskRefuses.j4 k2 false)) else (if t268 = 1 then (if bt282.2.2 = 3 then (if bt300.2 = true then (if (bt300.1.length : Int) = 65500 then (kotatsulaw06_DiskRefuses.j4 k2 (bt323.2.2 == 7)) else (kotatsulaw06_DiskRefuses.j4 k2 false)) else (kotatsulaw06_DiskRefuses.j4 k2 false)) else (kotatsulaw06_DiskRefuses.j4 k2 false)) else (kotatsulaw06_DiskRefuses.j4 k2 false))) else (kotatsulaw06_DiskRefuses.j4 k2 false)) else (if ((t268 == 0) == false) = true then (if t268 = 0 then (if bt282.2.2 = 3 then (if bt300.2 = true then (if (bt300.1.length : Int) = 65500 then (kotatsulaw06_DiskRefuses.j4 k2 (bt323.2.2 == 7)) else (kotatsulaw06_DiskRefuses.j4 k2 false)) else (kotatsulaw06_DiskRefuses.j4 k2 false)) else (kotatsulaw06_DiskRefuses.j4 k2 false)) else (if t268 = 1 then (if bt282.2.2 = 3 then (if bt300.2 = true then (if (bt300.1.length : Int) = 65500 then (kotatsulaw06_DiskRefuses.j4 k2 (bt323.2.2 == 7)) else (kotatsulaw06_DiskRefuses.j4 k2 false)) else (kotatsulaw06_DiskRefuses.j4 k2 false)) else (kotatsulaw06_DiskRefuses.j4 k2 false)) else (kotatsulaw06_DiskRefuses.j4 k2 false))) else (kotatsulaw06_DiskRefuses.j4 k2 false))) else (if ((t268 == 0) == false) = true then (if t268 = 0 then (if bt282.2.2 = 3 then (if bt300.2 = true then (if (bt300.1.length : Int) = 65500 then (kotatsulaw06_DiskRefuses.j4 k2 (bt323.2.2 == 7)) else (kotatsulaw06_DiskRefuses.j4 k2 false)) else (kotatsulaw06_DiskRefuses.j4 k2 false)) else (kotatsulaw06_DiskRefuses.j4 k2 false)) else (if t268 = 1 then (if bt282.2.2 = 3 then (if bt300.2 = true then (if (bt300.1.length : Int) = 65500 then (kotatsulaw06_DiskRefuses.j4 k2 (bt323.2.2 == 7)) else (kotatsulaw06_DiskRefuses.j4 k2 false)) else (kotatsulaw06_DiskRefuses.j4 k2 false)) else (kotatsulaw06_DiskRefuses.j4 k2 false)) else (kotatsulaw06_DiskRefuses.j4 k2 false))) else (kotatsulaw06_DiskRefuses.j4 k2 false))) else (kotatsulaw06_DiskRefuses.j4 k2 false))) else (kotatsulaw06_DiskRefuses.j4 k2 false))))))) else (none))))) else (none))) else (none)) else (none))) = some r := by first | (rw [hy270]; with_reducible exact H) | (have H2_ := (Option.bind_some _ _).symm.trans H; rw [hy270]; with_reducible exact H2_) | (have H2_ := (Option.bind_some _ _).symm.trans H; with_reducible exact H2_) | with_reducible exact H | (rw [hy270]; exact H) | exact H
   have Ny270 := Aside0.mk hy270
   clear hy270
   obtain ⟨y273, hy273⟩ : ∃ y_ : List (List Int), y_ = (([y270] : List (List Int))) := ⟨_, rfl⟩
   replace H : (if 0 < (y273.length : Int) then (if 0 < ((rd_L1 y273 0).length : Int) then ((disk_Set_To.f k2 3 (y273.set (0 : Int).toNat ((rd_L1 y273 0).set (0 : Int).toNat 1)) 1).bind fun bt282 => (if 65425 ≤ 281474976710656 then ((block_File.f 0 0 (⟨#[]⟩ : ByteArray) 0 0 (List.replicate 65425 0)).bind fun t291 => ((block_Disk.f (⟨#[]⟩ : ByteArray) 0 (([t291] : List (List (S73))))).bind fun t297 => ((block_Side.f k2 t297 65500).bind fun bt300 => (if 65450 ≤ 281474976710656 then ((block_File.f 0 0 (⟨#[]⟩ : ByteArray) 0 0 (List.replicate 65450 0)).bind fun t307 => ((block_Disk.f (⟨#[]⟩ : ByteArray) 0 (([t307] : List (List (S73))))).bind fun t313 => ((disk_Wrap.f k2 t313).bind fun bt316 => ((disk_Set_To.f k2 3 (([bt316.1] : List (List Int))) 1).bind fun bt323 => ((disk_Set_Right.f k2 a0 x253001_2).bind fun t329 => (if (t329 == x8_2) = true then ((disk_Set_Bytes.f k2 a0 x253001_2).bind fun t330 => (if ((decide ((t330.length : Int) > 0)) == x8_2) = true then (if x8_2 = true then (if a2 ≥ 1 then (if ((t268 == 0) == (decide (a2 ≤ 3))) = true then (if t268 = 0 then (if bt282.2.2 = 3 then (if bt300.2 = true then (if (bt300.1.length : Int) = 65500 then (kotatsulaw06_DiskRefuses.j4 k2 (bt323.2.2 == 7)) else (kotatsulaw06_DiskRefuses.j4 k2 false)) else (kotatsulaw06_DiskRefuses.j4 k2 false)) else (kotatsulaw06_DiskRefuses.j4 k2 false)) else (if t268 = 1 then (if bt282.2.2 = 3 then (if bt300.2 = true then (if (bt300.1.length : Int) = 65500 then (kotatsulaw06_DiskRefuses.j4 k2 (bt323.2.2 == 7)) else (kotatsulaw06_DiskRefuses.j4 k2 false)) else (kotatsulaw06_DiskRefuses.j4 k2 false)) else (kotatsulaw06_DiskRefuses.j4 k2 false)) else (kotatsulaw06_DiskRefuses.j4 k2 false))) else (kotatsulaw06_DiskRefuses.j4 k2 false)) else (if ((t268 == 0) == false) = true then (if t268 = 0 then (if bt282.2.2 = 3 then (if bt300.2 = true then (if (bt300.1.length : Int) = 65500 then (kotatsulaw06_DiskRefuses.j4 k2 (bt323.2.2 == 7)) else (kotatsulaw06_DiskRefuses.j4 k2 false)) else (kotatsulaw06_DiskRefuses.j4 k2 false)) else (kotatsulaw06_DiskRefuses.j4 k2 false)) else (if t268 = 1 then (if bt282.2.2 = 3 then (if bt300.2 = true then (if (bt300.1.length : Int) = 65500 then (kotatsulaw06_DiskRefuses.j4 k2 (bt323.2.2 == 7)) else (kotatsulaw06_DiskRefuses.j4 k2 false)) else (kotatsulaw06_DiskRefuses.j4 k2 false)) else (kotatsulaw06_DiskRefuses.j4 k2 false)) else (kotatsulaw06_DiskRefuses.j4 k2 false))) else (kotatsulaw06_DiskRefuses.j4 k2 false))) else (if ((t268 == 0) == false) = true then (if t268 = 0 then (if bt282.2.2 = 3 then (if bt300.2 = true then (if (bt300.1.length : Int) = 65500 then (kotatsulaw06_DiskRefuses.j4 k2 (bt323.2.2 == 7)) else (kotatsulaw06_DiskRefuses.j4 k2 false)) else (kotatsulaw06_DiskRefuses.j4 k2 false)) else (kotatsulaw06_DiskRefuses.j4 k2 false)) else (if t268 = 1 then (if bt282.2.2 = 3 then (if bt300.2 = true then (if (bt300.1.length : Int) = 65500 then (kotatsulaw06_DiskRefuses.j4 k2 (bt323.2.2 == 7)) else (kotatsulaw06_DiskRefuses.j4 k2 false)) else (kotatsulaw06_DiskRefuses.j4 k2 false)) else (kotatsulaw06_DiskRefuses.j4 k2 false)) else (kotatsulaw06_DiskRefuses.j4 k2 false))) else (kotatsulaw06_DiskRefuses.j4 k2 false))) else (kotatsulaw06_DiskRefuses.j4 k2 false))) else (kotatsulaw06_DiskRefuses.j4 k2 false))))))) else (none))))) else (none))) else (none)) else (none)) = some r := by first | (rw [hy273]; with_reducible exact H) | (have H2_ := (Option.bind_some _ _).symm.trans H; rw [hy273]; with_reducible exact H2_) | (have H2_ := (Option.bind_some _ _).symm.trans H; with_reducible exact H2_) | with_reducible exact H | (rw [hy273]; exact H) | exact H
   have Ny273 := Aside0.mk hy273
   clear hy273
   by_cases c42 : 0 < (y273.length : Int)
   rotate_left
   ·rw [if_neg c42] at H
    exact absurd H (by simp)
   rw [if_pos c42] at H
   have c42b0 : decide (0 < (y273.length : Int)) = true := decide_eq_true c42
   have c42b1 : decide (0 < y273.length) = true := decide_eq_true (by omega)
   clear c42
   by_cases c43 : 0 < ((rd_L1 y273 0).length : Int)
   rotate_left
   ·rw [if_neg c43] at H
    exact absurd H (by simp)
   rw [if_pos c43] at H
   have c43b0 : decide (0 < ((rd_L1 y273 0).length : Int)) = true := decide_eq_true c43
   have c43b1 : decide (0 < (rd_L1 y273 0).length) = true := decide_eq_true (by omega)
   clear c43
   obtain ⟨y279, hy279⟩ : ∃ y_ : List Int, y_ = ((rd_L1 y273 0).set (0 : Int).toNat 1) := ⟨_, rfl⟩
   replace H : ((disk_Set_To.f k2 3 (y273.set (0 : Int).toNat y279) 1).bind fun bt282 => (if 65425 ≤ 281474976710656 then ((block_File.f 0 0 (⟨#[]⟩ : ByteArray) 0 0 (List.replicate 65425 0)).bind fun t291 => ((block_Disk.f (⟨#[]⟩ : ByteArray) 0 (([t291] : List (List (S73))))).bind fun t297 => ((block_Side.f k2 t297 65500).bind fun bt300 => (if 65450 ≤ 281474976710656 then ((block_File.f 0 0 (⟨#[]⟩ : ByteArray) 0 0 (List.replicate 65450 0)).bind fun t307 => ((block_Disk.f (⟨#[]⟩ : ByteArray) 0 (([t307] : List (List (S73))))).bind fun t313 => ((disk_Wrap.f k2 t313).bind fun bt316 => ((disk_Set_To.f k2 3 (([bt316.1] : List (List Int))) 1).bind fun bt323 => ((disk_Set_Right.f k2 a0 x253001_2).bind fun t329 => (if (t329 == x8_2) = true then ((disk_Set_Bytes.f k2 a0 x253001_2).bind fun t330 => (if ((decide ((t330.length : Int) > 0)) == x8_2) = true then (if x8_2 = true then (if a2 ≥ 1 then (if ((t268 == 0) == (decide (a2 ≤ 3))) = true then (if t268 = 0 then (if bt282.2.2 = 3 then (if bt300.2 = true then (if (bt300.1.length : Int) = 65500 then (kotatsulaw06_DiskRefuses.j4 k2 (bt323.2.2 == 7)) else (kotatsulaw06_DiskRefuses.j4 k2 false)) else (kotatsulaw06_DiskRefuses.j4 k2 false)) else (kotatsulaw06_DiskRefuses.j4 k2 false)) else (if t268 = 1 then (if bt282.2.2 = 3 then (if bt300.2 = true then (if (bt300.1.length : Int) = 65500 then (kotatsulaw06_DiskRefuses.j4 k2 (bt323.2.2 == 7)) else (kotatsulaw06_DiskRefuses.j4 k2 false)) else (kotatsulaw06_DiskRefuses.j4 k2 false)) else (kotatsulaw06_DiskRefuses.j4 k2 false)) else (kotatsulaw06_DiskRefuses.j4 k2 false))) else (kotatsulaw06_DiskRefuses.j4 k2 false)) else (if ((t268 == 0) == false) = true then (if t268 = 0 then (if bt282.2.2 = 3 then (if bt300.2 = true then (if (bt300.1.length : Int) = 65500 then (kotatsulaw06_DiskRefuses.j4 k2 (bt323.2.2 == 7)) else (kotatsulaw06_DiskRefuses.j4 k2 false)) else (kotatsulaw06_DiskRefuses.j4 k2 false)) else (kotatsulaw06_DiskRefuses.j4 k2 false)) else (if t268 = 1 then (if bt282.2.2 = 3 then (if bt300.2 = true then (if (bt300.1.length : Int) = 65500 then (kotatsulaw06_DiskRefuses.j4 k2 (bt323.2.2 == 7)) else (kotatsulaw06_DiskRefuses.j4 k2 false)) else (kotatsulaw06_DiskRefuses.j4 k2 false)) else (kotatsulaw06_DiskRefuses.j4 k2 false)) else (kotatsulaw06_DiskRefuses.j4 k2 false))) else (kotatsulaw06_DiskRefuses.j4 k2 false))) else (if ((t268 == 0) == false) = true then (if t268 = 0 then (if bt282.2.2 = 3 then (if bt300.2 = true then (if (bt300.1.length : Int) = 65500 then (kotatsulaw06_DiskRefuses.j4 k2 (bt323.2.2 == 7)) else (kotatsulaw06_DiskRefuses.j4 k2 false)) else (kotatsulaw06_DiskRefuses.j4 k2 false)) else (kotatsulaw06_DiskRefuses.j4 k2 false)) else (if t268 = 1 then (if bt282.2.2 = 3 then (if bt300.2 = true then (if (bt300.1.length : Int) = 65500 then (kotatsulaw06_DiskRefuses.j4 k2 (bt323.2.2 == 7)) else (kotatsulaw06_DiskRefuses.j4 k2 false)) else (kotatsulaw06_DiskRefuses.j4 k2 false)) else (kotatsulaw06_DiskRefuses.j4 k2 false)) else (kotatsulaw06_DiskRefuses.j4 k2 false))) else (kotatsulaw06_DiskRefuses.j4 k2 false))) else (kotatsulaw06_DiskRefuses.j4 k2 false))) else (kotatsulaw06_DiskRefuses.j4 k2 false))))))) else (none))))) else (none))) = some r := by first | (rw [hy279]; with_reducible exact H) | (have H2_ := (Option.bind_some _ _).symm.trans H; rw [hy279]; with_reducible exact H2_) | (have H2_ := (Option.bind_some _ _).symm.trans H; with_reducible exact H2_) | with_reducible exact H | (rw [hy279]; exact H) | exact H
   have Ny279 := Aside0.mk hy279
   clear hy279
   obtain ⟨y281, hy281⟩ : ∃ y_ : List (List Int), y_ = (y273.set (0 : Int).toNat y279) := ⟨_, rfl⟩
   replace H : ((disk_Set_To.f k2 3 y281 1).bind fun bt282 => (if 65425 ≤ 281474976710656 then ((block_File.f 0 0 (⟨#[]⟩ : ByteArray) 0 0 (List.replicate 65425 0)).bind fun t291 => ((block_Disk.f (⟨#[]⟩ : ByteArray) 0 (([t291] : List (List (S73))))).bind fun t297 => ((block_Side.f k2 t297 65500).bind fun bt300 => (if 65450 ≤ 281474976710656 then ((block_File.f 0 0 (⟨#[]⟩ : ByteArray) 0 0 (List.replicate 65450 0)).bind fun t307 => ((block_Disk.f (⟨#[]⟩ : ByteArray) 0 (([t307] : List (List (S73))))).bind fun t313 => ((disk_Wrap.f k2 t313).bind fun bt316 => ((disk_Set_To.f k2 3 (([bt316.1] : List (List Int))) 1).bind fun bt323 => ((disk_Set_Right.f k2 a0 x253001_2).bind fun t329 => (if (t329 == x8_2) = true then ((disk_Set_Bytes.f k2 a0 x253001_2).bind fun t330 => (if ((decide ((t330.length : Int) > 0)) == x8_2) = true then (if x8_2 = true then (if a2 ≥ 1 then (if ((t268 == 0) == (decide (a2 ≤ 3))) = true then (if t268 = 0 then (if bt282.2.2 = 3 then (if bt300.2 = true then (if (bt300.1.length : Int) = 65500 then (kotatsulaw06_DiskRefuses.j4 k2 (bt323.2.2 == 7)) else (kotatsulaw06_DiskRefuses.j4 k2 false)) else (kotatsulaw06_DiskRefuses.j4 k2 false)) else (kotatsulaw06_DiskRefuses.j4 k2 false)) else (if t268 = 1 then (if bt282.2.2 = 3 then (if bt300.2 = true then (if (bt300.1.length : Int) = 65500 then (kotatsulaw06_DiskRefuses.j4 k2 (bt323.2.2 == 7)) else (kotatsulaw06_DiskRefuses.j4 k2 false)) else (kotatsulaw06_DiskRefuses.j4 k2 false)) else (kotatsulaw06_DiskRefuses.j4 k2 false)) else (kotatsulaw06_DiskRefuses.j4 k2 false))) else (kotatsulaw06_DiskRefuses.j4 k2 false)) else (if ((t268 == 0) == false) = true then (if t268 = 0 then (if bt282.2.2 = 3 then (if bt300.2 = true then (if (bt300.1.length : Int) = 65500 then (kotatsulaw06_DiskRefuses.j4 k2 (bt323.2.2 == 7)) else (kotatsulaw06_DiskRefuses.j4 k2 false)) else (kotatsulaw06_DiskRefuses.j4 k2 false)) else (kotatsulaw06_DiskRefuses.j4 k2 false)) else (if t268 = 1 then (if bt282.2.2 = 3 then (if bt300.2 = true then (if (bt300.1.length : Int) = 65500 then (kotatsulaw06_DiskRefuses.j4 k2 (bt323.2.2 == 7)) else (kotatsulaw06_DiskRefuses.j4 k2 false)) else (kotatsulaw06_DiskRefuses.j4 k2 false)) else (kotatsulaw06_DiskRefuses.j4 k2 false)) else (kotatsulaw06_DiskRefuses.j4 k2 false))) else (kotatsulaw06_DiskRefuses.j4 k2 false))) else (if ((t268 == 0) == false) = true then (if t268 = 0 then (if bt282.2.2 = 3 then (if bt300.2 = true then (if (bt300.1.length : Int) = 65500 then (kotatsulaw06_DiskRefuses.j4 k2 (bt323.2.2 == 7)) else (kotatsulaw06_DiskRefuses.j4 k2 false)) else (kotatsulaw06_DiskRefuses.j4 k2 false)) else (kotatsulaw06_DiskRefuses.j4 k2 false)) else (if t268 = 1 then (if bt282.2.2 = 3 then (if bt300.2 = true then (if (bt300.1.length : Int) = 65500 then (kotatsulaw06_DiskRefuses.j4 k2 (bt323.2.2 == 7)) else (kotatsulaw06_DiskRefuses.j4 k2 false)) else (kotatsulaw06_DiskRefuses.j4 k2 false)) else (kotatsulaw06_DiskRefuses.j4 k2 false)) else (kotatsulaw06_DiskRefuses.j4 k2 false))) else (kotatsulaw06_DiskRefuses.j4 k2 false))) else (kotatsulaw06_DiskRefuses.j4 k2 false))) else (kotatsulaw06_DiskRefuses.j4 k2 false))))))) else (none))))) else (none))) = some r := by first | (rw [hy281]; with_reducible exact H) | (have H2_ := (Option.bind_some _ _).symm.trans H; rw [hy281]; with_reducible exact H2_) | (have H2_ := (Option.bind_some _ _).symm.trans H; with_reducible exact H2_) | with_reducible exact H | (rw [hy281]; exact H) | exact H
   have Ny281 := Aside0.mk hy281
   clear hy281
   replace H := Option.bind_eq_some_iff.mp H
   obtain ⟨⟨t282, t283, t286⟩, A440, H⟩ := H
   replace H : (if 65425 ≤ 281474976710656 then ((block_File.f 0 0 (⟨#[]⟩ : ByteArray) 0 0 (List.replicate 65425 0)).bind fun t291 => ((block_Disk.f (⟨#[]⟩ : ByteArray) 0 (([t291] : List (List (S73))))).bind fun t297 => ((block_Side.f k2 t297 65500).bind fun bt300 => (if 65450 ≤ 281474976710656 then ((block_File.f 0 0 (⟨#[]⟩ : ByteArray) 0 0 (List.replicate 65450 0)).bind fun t307 => ((block_Disk.f (⟨#[]⟩ : ByteArray) 0 (([t307] : List (List (S73))))).bind fun t313 => ((disk_Wrap.f k2 t313).bind fun bt316 => ((disk_Set_To.f k2 3 (([bt316.1] : List (List Int))) 1).bind fun bt323 => ((disk_Set_Right.f k2 a0 x253001_2).bind fun t329 => (if (t329 == x8_2) = true then ((disk_Set_Bytes.f k2 a0 x253001_2).bind fun t330 => (if ((decide ((t330.length : Int) > 0)) == x8_2) = true then (if x8_2 = true then (if a2 ≥ 1 then (if ((t268 == 0) == (decide (a2 ≤ 3))) = true then (if t268 = 0 then (if t286 = 3 then (if bt300.2 = true then (if (bt300.1.length : Int) = 65500 then (kotatsulaw06_DiskRefuses.j4 k2 (bt323.2.2 == 7)) else (kotatsulaw06_DiskRefuses.j4 k2 false)) else (kotatsulaw06_DiskRefuses.j4 k2 false)) else (kotatsulaw06_DiskRefuses.j4 k2 false)) else (if t268 = 1 then (if t286 = 3 then (if bt300.2 = true then (if (bt300.1.length : Int) = 65500 then (kotatsulaw06_DiskRefuses.j4 k2 (bt323.2.2 == 7)) else (kotatsulaw06_DiskRefuses.j4 k2 false)) else (kotatsulaw06_DiskRefuses.j4 k2 false)) else (kotatsulaw06_DiskRefuses.j4 k2 false)) else (kotatsulaw06_DiskRefuses.j4 k2 false))) else (kotatsulaw06_DiskRefuses.j4 k2 false)) else (if ((t268 == 0) == false) = true then (if t268 = 0 then (if t286 = 3 then (if bt300.2 = true then (if (bt300.1.length : Int) = 65500 then (kotatsulaw06_DiskRefuses.j4 k2 (bt323.2.2 == 7)) else (kotatsulaw06_DiskRefuses.j4 k2 false)) else (kotatsulaw06_DiskRefuses.j4 k2 false)) else (kotatsulaw06_DiskRefuses.j4 k2 false)) else (if t268 = 1 then (if t286 = 3 then (if bt300.2 = true then (if (bt300.1.length : Int) = 65500 then (kotatsulaw06_DiskRefuses.j4 k2 (bt323.2.2 == 7)) else (kotatsulaw06_DiskRefuses.j4 k2 false)) else (kotatsulaw06_DiskRefuses.j4 k2 false)) else (kotatsulaw06_DiskRefuses.j4 k2 false)) else (kotatsulaw06_DiskRefuses.j4 k2 false))) else (kotatsulaw06_DiskRefuses.j4 k2 false))) else (if ((t268 == 0) == false) = true then (if t268 = 0 then (if t286 = 3 then (if bt300.2 = true then (if (bt300.1.length : Int) = 65500 then (kotatsulaw06_DiskRefuses.j4 k2 (bt323.2.2 == 7)) else (kotatsulaw06_DiskRefuses.j4 k2 false)) else (kotatsulaw06_DiskRefuses.j4 k2 false)) else (kotatsulaw06_DiskRefuses.j4 k2 false)) else (if t268 = 1 then (if t286 = 3 then (if bt300.2 = true then (if (bt300.1.length : Int) = 65500 then (kotatsulaw06_DiskRefuses.j4 k2 (bt323.2.2 == 7)) else (kotatsulaw06_DiskRefuses.j4 k2 false)) else (kotatsulaw06_DiskRefuses.j4 k2 false)) else (kotatsulaw06_DiskRefuses.j4 k2 false)) else (kotatsulaw06_DiskRefuses.j4 k2 false))) else (kotatsulaw06_DiskRefuses.j4 k2 false))) else (kotatsulaw06_DiskRefuses.j4 k2 false))) else (kotatsulaw06_DiskRefuses.j4 k2 false))))))) else (none))))) else (none)) = some r := H
   have A44 := Aside0.mk A440
   clear A440
   by_cases c45 : 65425 ≤ 281474976710656
   rotate_left
   ·rw [if_neg c45] at H
    exact absurd H (by simp)
   rw [if_pos c45] at H
   have c45b0 := eq_true c45
   have c45b1 : decide (65425 ≤ 281474976710656) = true := decide_eq_true c45
   clear c45
   obtain ⟨y288, hy288⟩ : ∃ y_ : List Int, y_ = (List.replicate 65425 0) := ⟨_, rfl⟩
   replace H : ((block_File.f 0 0 (⟨#[]⟩ : ByteArray) 0 0 y288).bind fun t291 => ((block_Disk.f (⟨#[]⟩ : ByteArray) 0 (([t291] : List (List (S73))))).bind fun t297 => ((block_Side.f k2 t297 65500).bind fun bt300 => (if 65450 ≤ 281474976710656 then ((block_File.f 0 0 (⟨#[]⟩ : ByteArray) 0 0 (List.replicate 65450 0)).bind fun t307 => ((block_Disk.f (⟨#[]⟩ : ByteArray) 0 (([t307] : List (List (S73))))).bind fun t313 => ((disk_Wrap.f k2 t313).bind fun bt316 => ((disk_Set_To.f k2 3 (([bt316.1] : List (List Int))) 1).bind fun bt323 => ((disk_Set_Right.f k2 a0 x253001_2).bind fun t329 => (if (t329 == x8_2) = true then ((disk_Set_Bytes.f k2 a0 x253001_2).bind fun t330 => (if ((decide ((t330.length : Int) > 0)) == x8_2) = true then (if x8_2 = true then (if a2 ≥ 1 then (if ((t268 == 0) == (decide (a2 ≤ 3))) = true then (if t268 = 0 then (if t286 = 3 then (if bt300.2 = true then (if (bt300.1.length : Int) = 65500 then (kotatsulaw06_DiskRefuses.j4 k2 (bt323.2.2 == 7)) else (kotatsulaw06_DiskRefuses.j4 k2 false)) else (kotatsulaw06_DiskRefuses.j4 k2 false)) else (kotatsulaw06_DiskRefuses.j4 k2 false)) else (if t268 = 1 then (if t286 = 3 then (if bt300.2 = true then (if (bt300.1.length : Int) = 65500 then (kotatsulaw06_DiskRefuses.j4 k2 (bt323.2.2 == 7)) else (kotatsulaw06_DiskRefuses.j4 k2 false)) else (kotatsulaw06_DiskRefuses.j4 k2 false)) else (kotatsulaw06_DiskRefuses.j4 k2 false)) else (kotatsulaw06_DiskRefuses.j4 k2 false))) else (kotatsulaw06_DiskRefuses.j4 k2 false)) else (if ((t268 == 0) == false) = true then (if t268 = 0 then (if t286 = 3 then (if bt300.2 = true then (if (bt300.1.length : Int) = 65500 then (kotatsulaw06_DiskRefuses.j4 k2 (bt323.2.2 == 7)) else (kotatsulaw06_DiskRefuses.j4 k2 false)) else (kotatsulaw06_DiskRefuses.j4 k2 false)) else (kotatsulaw06_DiskRefuses.j4 k2 false)) else (if t268 = 1 then (if t286 = 3 then (if bt300.2 = true then (if (bt300.1.length : Int) = 65500 then (kotatsulaw06_DiskRefuses.j4 k2 (bt323.2.2 == 7)) else (kotatsulaw06_DiskRefuses.j4 k2 false)) else (kotatsulaw06_DiskRefuses.j4 k2 false)) else (kotatsulaw06_DiskRefuses.j4 k2 false)) else (kotatsulaw06_DiskRefuses.j4 k2 false))) else (kotatsulaw06_DiskRefuses.j4 k2 false))) else (if ((t268 == 0) == false) = true then (if t268 = 0 then (if t286 = 3 then (if bt300.2 = true then (if (bt300.1.length : Int) = 65500 then (kotatsulaw06_DiskRefuses.j4 k2 (bt323.2.2 == 7)) else (kotatsulaw06_DiskRefuses.j4 k2 false)) else (kotatsulaw06_DiskRefuses.j4 k2 false)) else (kotatsulaw06_DiskRefuses.j4 k2 false)) else (if t268 = 1 then (if t286 = 3 then (if bt300.2 = true then (if (bt300.1.length : Int) = 65500 then (kotatsulaw06_DiskRefuses.j4 k2 (bt323.2.2 == 7)) else (kotatsulaw06_DiskRefuses.j4 k2 false)) else (kotatsulaw06_DiskRefuses.j4 k2 false)) else (kotatsulaw06_DiskRefuses.j4 k2 false)) else (kotatsulaw06_DiskRefuses.j4 k2 false))) else (kotatsulaw06_DiskRefuses.j4 k2 false))) else (kotatsulaw06_DiskRefuses.j4 k2 false))) else (kotatsulaw06_DiskRefuses.j4 k2 false))))))) else (none))))) = some r := by first | (rw [hy288]; with_reducible exact H) | (have H2_ := (Option.bind_some _ _).symm.trans H; rw [hy288]; with_reducible exact H2_) | (have H2_ := (Option.bind_some _ _).symm.trans H; with_reducible exact H2_) | with_reducible exact H | (rw [hy288]; exact H) | exact H
   have Ny288 := Aside0.mk hy288
   clear hy288
   replace H := Option.bind_eq_some_iff.mp H
   obtain ⟨t291, A460, H⟩ := H
   replace H : ((block_Disk.f (⟨#[]⟩ : ByteArray) 0 (([t291] : List (List (S73))))).bind fun t297 => ((block_Side.f k2 t297 65500).bind fun bt300 => (if 65450 ≤ 281474976710656 then ((block_File.f 0 0 (⟨#[]⟩ : ByteArray) 0 0 (List.replicate 65450 0)).bind fun t307 => ((block_Disk.f (⟨#[]⟩ : ByteArray) 0 (([t307] : List (List (S73))))).bind fun t313 => ((disk_Wrap.f k2 t313).bind fun bt316 => ((disk_Set_To.f k2 3 (([bt316.1] : List (List Int))) 1).bind fun bt323 => ((disk_Set_Right.f k2 a0 x253001_2).bind fun t329 => (if (t329 == x8_2) = true then ((disk_Set_Bytes.f k2 a0 x253001_2).bind fun t330 => (if ((decide ((t330.length : Int) > 0)) == x8_2) = true then (if x8_2 = true then (if a2 ≥ 1 then (if ((t268 == 0) == (decide (a2 ≤ 3))) = true then (if t268 = 0 then (if t286 = 3 then (if bt300.2 = true then (if (bt300.1.length : Int) = 65500 then (kotatsulaw06_DiskRefuses.j4 k2 (bt323.2.2 == 7)) else (kotatsulaw06_DiskRefuses.j4 k2 false)) else (kotatsulaw06_DiskRefuses.j4 k2 false)) else (kotatsulaw06_DiskRefuses.j4 k2 false)) else (if t268 = 1 then (if t286 = 3 then (if bt300.2 = true then (if (bt300.1.length : Int) = 65500 then (kotatsulaw06_DiskRefuses.j4 k2 (bt323.2.2 == 7)) else (kotatsulaw06_DiskRefuses.j4 k2 false)) else (kotatsulaw06_DiskRefuses.j4 k2 false)) else (kotatsulaw06_DiskRefuses.j4 k2 false)) else (kotatsulaw06_DiskRefuses.j4 k2 false))) else (kotatsulaw06_DiskRefuses.j4 k2 false)) else (if ((t268 == 0) == false) = true then (if t268 = 0 then (if t286 = 3 then (if bt300.2 = true then (if (bt300.1.length : Int) = 65500 then (kotatsulaw06_DiskRefuses.j4 k2 (bt323.2.2 == 7)) else (kotatsulaw06_DiskRefuses.j4 k2 false)) else (kotatsulaw06_DiskRefuses.j4 k2 false)) else (kotatsulaw06_DiskRefuses.j4 k2 false)) else (if t268 = 1 then (if t286 = 3 then (if bt300.2 = true then (if (bt300.1.length : Int) = 65500 then (kotatsulaw06_DiskRefuses.j4 k2 (bt323.2.2 == 7)) else (kotatsulaw06_DiskRefuses.j4 k2 false)) else (kotatsulaw06_DiskRefuses.j4 k2 false)) else (kotatsulaw06_DiskRefuses.j4 k2 false)) else (kotatsulaw06_DiskRefuses.j4 k2 false))) else (kotatsulaw06_DiskRefuses.j4 k2 false))) else (if ((t268 == 0) == false) = true then (if t268 = 0 then (if t286 = 3 then (if bt300.2 = true then (if (bt300.1.length : Int) = 65500 then (kotatsulaw06_DiskRefuses.j4 k2 (bt323.2.2 == 7)) else (kotatsulaw06_DiskRefuses.j4 k2 false)) else (kotatsulaw06_DiskRefuses.j4 k2 false)) else (kotatsulaw06_DiskRefuses.j4 k2 false)) else (if t268 = 1 then (if t286 = 3 then (if bt300.2 = true then (if (bt300.1.length : Int) = 65500 then (kotatsulaw06_DiskRefuses.j4 k2 (bt323.2.2 == 7)) else (kotatsulaw06_DiskRefuses.j4 k2 false)) else (kotatsulaw06_DiskRefuses.j4 k2 false)) else (kotatsulaw06_DiskRefuses.j4 k2 false)) else (kotatsulaw06_DiskRefuses.j4 k2 false))) else (kotatsulaw06_DiskRefuses.j4 k2 false))) else (kotatsulaw06_DiskRefuses.j4 k2 false))) else (kotatsulaw06_DiskRefuses.j4 k2 false))))))) else (none)))) = some r := H
   have A46 := Aside0.mk A460
   clear A460
   obtain ⟨y294, hy294⟩ : ∃ y_ : List (List (S73)), y_ = (([t291] : List (List (S73)))) := ⟨_, rfl⟩
   replace H : ((block_Disk.f (⟨#[]⟩ : ByteArray) 0 y294).bind fun t297 => ((block_Side.f k2 t297 65500).bind fun bt300 => (if 65450 ≤ 281474976710656 then ((block_File.f 0 0 (⟨#[]⟩ : ByteArray) 0 0 (List.replicate 65450 0)).bind fun t307 => ((block_Disk.f (⟨#[]⟩ : ByteArray) 0 (([t307] : List (List (S73))))).bind fun t313 => ((disk_Wrap.f k2 t313).bind fun bt316 => ((disk_Set_To.f k2 3 (([bt316.1] : List (List Int))) 1).bind fun bt323 => ((disk_Set_Right.f k2 a0 x253001_2).bind fun t329 => (if (t329 == x8_2) = true then ((disk_Set_Bytes.f k2 a0 x253001_2).bind fun t330 => (if ((decide ((t330.length : Int) > 0)) == x8_2) = true then (if x8_2 = true then (if a2 ≥ 1 then (if ((t268 == 0) == (decide (a2 ≤ 3))) = true then (if t268 = 0 then (if t286 = 3 then (if bt300.2 = true then (if (bt300.1.length : Int) = 65500 then (kotatsulaw06_DiskRefuses.j4 k2 (bt323.2.2 == 7)) else (kotatsulaw06_DiskRefuses.j4 k2 false)) else (kotatsulaw06_DiskRefuses.j4 k2 false)) else (kotatsulaw06_DiskRefuses.j4 k2 false)) else (if t268 = 1 then (if t286 = 3 then (if bt300.2 = true then (if (bt300.1.length : Int) = 65500 then (kotatsulaw06_DiskRefuses.j4 k2 (bt323.2.2 == 7)) else (kotatsulaw06_DiskRefuses.j4 k2 false)) else (kotatsulaw06_DiskRefuses.j4 k2 false)) else (kotatsulaw06_DiskRefuses.j4 k2 false)) else (kotatsulaw06_DiskRefuses.j4 k2 false))) else (kotatsulaw06_DiskRefuses.j4 k2 false)) else (if ((t268 == 0) == false) = true then (if t268 = 0 then (if t286 = 3 then (if bt300.2 = true then (if (bt300.1.length : Int) = 65500 then (kotatsulaw06_DiskRefuses.j4 k2 (bt323.2.2 == 7)) else (kotatsulaw06_DiskRefuses.j4 k2 false)) else (kotatsulaw06_DiskRefuses.j4 k2 false)) else (kotatsulaw06_DiskRefuses.j4 k2 false)) else (if t268 = 1 then (if t286 = 3 then (if bt300.2 = true then (if (bt300.1.length : Int) = 65500 then (kotatsulaw06_DiskRefuses.j4 k2 (bt323.2.2 == 7)) else (kotatsulaw06_DiskRefuses.j4 k2 false)) else (kotatsulaw06_DiskRefuses.j4 k2 false)) else (kotatsulaw06_DiskRefuses.j4 k2 false)) else (kotatsulaw06_DiskRefuses.j4 k2 false))) else (kotatsulaw06_DiskRefuses.j4 k2 false))) else (if ((t268 == 0) == false) = true then (if t268 = 0 then (if t286 = 3 then (if bt300.2 = true then (if (bt300.1.length : Int) = 65500 then (kotatsulaw06_DiskRefuses.j4 k2 (bt323.2.2 == 7)) else (kotatsulaw06_DiskRefuses.j4 k2 false)) else (kotatsulaw06_DiskRefuses.j4 k2 false)) else (kotatsulaw06_DiskRefuses.j4 k2 false)) else (if t268 = 1 then (if t286 = 3 then (if bt300.2 = true then (if (bt300.1.length : Int) = 65500 then (kotatsulaw06_DiskRefuses.j4 k2 (bt323.2.2 == 7)) else (kotatsulaw06_DiskRefuses.j4 k2 false)) else (kotatsulaw06_DiskRefuses.j4 k2 false)) else (kotatsulaw06_DiskRefuses.j4 k2 false)) else (kotatsulaw06_DiskRefuses.j4 k2 false))) else (kotatsulaw06_DiskRefuses.j4 k2 false))) else (kotatsulaw06_DiskRefuses.j4 k2 false))) else (kotatsulaw06_DiskRefuses.j4 k2 false))))))) else (none)))) = some r := by first | (rw [hy294]; with_reducible exact H) | (have H2_ := (Option.bind_some _ _).symm.trans H; rw [hy294]; with_reducible exact H2_) | (have H2_ := (Option.bind_some _ _).symm.trans H; with_reducible exact H2_) | with_reducible exact H | (rw [hy294]; exact H) | exact H
   have Ny294 := Aside0.mk hy294
   clear hy294
   replace H := Option.bind_eq_some_iff.mp H
   obtain ⟨t297, A470, H⟩ := H
   replace H : ((block_Side.f k2 t297 65500).bind fun bt300 => (if 65450 ≤ 281474976710656 then ((block_File.f 0 0 (⟨#[]⟩ : ByteArray) 0 0 (List.replicate 65450 0)).bind fun t307 => ((block_Disk.f (⟨#[]⟩ : ByteArray) 0 (([t307] : List (List (S73))))).bind fun t313 => ((disk_Wrap.f k2 t313).bind fun bt316 => ((disk_Set_To.f k2 3 (([bt316.1] : List (List Int))) 1).bind fun bt323 => ((disk_Set_Right.f k2 a0 x253001_2).bind fun t329 => (if (t329 == x8_2) = true then ((disk_Set_Bytes.f k2 a0 x253001_2).bind fun t330 => (if ((decide ((t330.length : Int) > 0)) == x8_2) = true then (if x8_2 = true then (if a2 ≥ 1 then (if ((t268 == 0) == (decide (a2 ≤ 3))) = true then (if t268 = 0 then (if t286 = 3 then (if bt300.2 = true then (if (bt300.1.length : Int) = 65500 then (kotatsulaw06_DiskRefuses.j4 k2 (bt323.2.2 == 7)) else (kotatsulaw06_DiskRefuses.j4 k2 false)) else (kotatsulaw06_DiskRefuses.j4 k2 false)) else (kotatsulaw06_DiskRefuses.j4 k2 false)) else (if t268 = 1 then (if t286 = 3 then (if bt300.2 = true then (if (bt300.1.length : Int) = 65500 then (kotatsulaw06_DiskRefuses.j4 k2 (bt323.2.2 == 7)) else (kotatsulaw06_DiskRefuses.j4 k2 false)) else (kotatsulaw06_DiskRefuses.j4 k2 false)) else (kotatsulaw06_DiskRefuses.j4 k2 false)) else (kotatsulaw06_DiskRefuses.j4 k2 false))) else (kotatsulaw06_DiskRefuses.j4 k2 false)) else (if ((t268 == 0) == false) = true then (if t268 = 0 then (if t286 = 3 then (if bt300.2 = true then (if (bt300.1.length : Int) = 65500 then (kotatsulaw06_DiskRefuses.j4 k2 (bt323.2.2 == 7)) else (kotatsulaw06_DiskRefuses.j4 k2 false)) else (kotatsulaw06_DiskRefuses.j4 k2 false)) else (kotatsulaw06_DiskRefuses.j4 k2 false)) else (if t268 = 1 then (if t286 = 3 then (if bt300.2 = true then (if (bt300.1.length : Int) = 65500 then (kotatsulaw06_DiskRefuses.j4 k2 (bt323.2.2 == 7)) else (kotatsulaw06_DiskRefuses.j4 k2 false)) else (kotatsulaw06_DiskRefuses.j4 k2 false)) else (kotatsulaw06_DiskRefuses.j4 k2 false)) else (kotatsulaw06_DiskRefuses.j4 k2 false))) else (kotatsulaw06_DiskRefuses.j4 k2 false))) else (if ((t268 == 0) == false) = true then (if t268 = 0 then (if t286 = 3 then (if bt300.2 = true then (if (bt300.1.length : Int) = 65500 then (kotatsulaw06_DiskRefuses.j4 k2 (bt323.2.2 == 7)) else (kotatsulaw06_DiskRefuses.j4 k2 false)) else (kotatsulaw06_DiskRefuses.j4 k2 false)) else (kotatsulaw06_DiskRefuses.j4 k2 false)) else (if t268 = 1 then (if t286 = 3 then (if bt300.2 = true then (if (bt300.1.length : Int) = 65500 then (kotatsulaw06_DiskRefuses.j4 k2 (bt323.2.2 == 7)) else (kotatsulaw06_DiskRefuses.j4 k2 false)) else (kotatsulaw06_DiskRefuses.j4 k2 false)) else (kotatsulaw06_DiskRefuses.j4 k2 false)) else (kotatsulaw06_DiskRefuses.j4 k2 false))) else (kotatsulaw06_DiskRefuses.j4 k2 false))) else (kotatsulaw06_DiskRefuses.j4 k2 false))) else (kotatsulaw06_DiskRefuses.j4 k2 false))))))) else (none))) = some r := H
   have A47 := Aside0.mk A470
   clear A470
   replace H := Option.bind_eq_some_iff.mp H
   obtain ⟨⟨t300, t303⟩, A480, H⟩ := H
   replace H : (if 65450 ≤ 281474976710656 then ((block_File.f 0 0 (⟨#[]⟩ : ByteArray) 0 0 (List.replicate 65450 0)).bind fun t307 => ((block_Disk.f (⟨#[]⟩ : ByteArray) 0 (([t307] : List (List (S73))))).bind fun t313 => ((disk_Wrap.f k2 t313).bind fun bt316 => ((disk_Set_To.f k2 3 (([bt316.1] : List (List Int))) 1).bind fun bt323 => ((disk_Set_Right.f k2 a0 x253001_2).bind fun t329 => (if (t329 == x8_2) = true then ((disk_Set_Bytes.f k2 a0 x253001_2).bind fun t330 => (if ((decide ((t330.length : Int) > 0)) == x8_2) = true then (if x8_2 = true then (if a2 ≥ 1 then (if ((t268 == 0) == (decide (a2 ≤ 3))) = true then (if t268 = 0 then (if t286 = 3 then (if t303 = true then (if (t300.length : Int) = 65500 then (kotatsulaw06_DiskRefuses.j4 k2 (bt323.2.2 == 7)) else (kotatsulaw06_DiskRefuses.j4 k2 false)) else (kotatsulaw06_DiskRefuses.j4 k2 false)) else (kotatsulaw06_DiskRefuses.j4 k2 false)) else (if t268 = 1 then (if t286 = 3 then (if t303 = true then (if (t300.length : Int) = 65500 then (kotatsulaw06_DiskRefuses.j4 k2 (bt323.2.2 == 7)) else (kotatsulaw06_DiskRefuses.j4 k2 false)) else (kotatsulaw06_DiskRefuses.j4 k2 false)) else (kotatsulaw06_DiskRefuses.j4 k2 false)) else (kotatsulaw06_DiskRefuses.j4 k2 false))) else (kotatsulaw06_DiskRefuses.j4 k2 false)) else (if ((t268 == 0) == false) = true then (if t268 = 0 then (if t286 = 3 then (if t303 = true then (if (t300.length : Int) = 65500 then (kotatsulaw06_DiskRefuses.j4 k2 (bt323.2.2 == 7)) else (kotatsulaw06_DiskRefuses.j4 k2 false)) else (kotatsulaw06_DiskRefuses.j4 k2 false)) else (kotatsulaw06_DiskRefuses.j4 k2 false)) else (if t268 = 1 then (if t286 = 3 then (if t303 = true then (if (t300.length : Int) = 65500 then (kotatsulaw06_DiskRefuses.j4 k2 (bt323.2.2 == 7)) else (kotatsulaw06_DiskRefuses.j4 k2 false)) else (kotatsulaw06_DiskRefuses.j4 k2 false)) else (kotatsulaw06_DiskRefuses.j4 k2 false)) else (kotatsulaw06_DiskRefuses.j4 k2 false))) else (kotatsulaw06_DiskRefuses.j4 k2 false))) else (if ((t268 == 0) == false) = true then (if t268 = 0 then (if t286 = 3 then (if t303 = true then (if (t300.length : Int) = 65500 then (kotatsulaw06_DiskRefuses.j4 k2 (bt323.2.2 == 7)) else (kotatsulaw06_DiskRefuses.j4 k2 false)) else (kotatsulaw06_DiskRefuses.j4 k2 false)) else (kotatsulaw06_DiskRefuses.j4 k2 false)) else (if t268 = 1 then (if t286 = 3 then (if t303 = true then (if (t300.length : Int) = 65500 then (kotatsulaw06_DiskRefuses.j4 k2 (bt323.2.2 == 7)) else (kotatsulaw06_DiskRefuses.j4 k2 false)) else (kotatsulaw06_DiskRefuses.j4 k2 false)) else (kotatsulaw06_DiskRefuses.j4 k2 false)) else (kotatsulaw06_DiskRefuses.j4 k2 false))) else (kotatsulaw06_DiskRefuses.j4 k2 false))) else (kotatsulaw06_DiskRefuses.j4 k2 false))) else (kotatsulaw06_DiskRefuses.j4 k2 false))))))) else (none)) = some r := H
   have A48 := Aside0.mk A480
   clear A480
   by_cases c49 : 65450 ≤ 281474976710656
   rotate_left
   ·rw [if_neg c49] at H
    exact absurd H (by simp)
   rw [if_pos c49] at H
   have c49b0 := eq_true c49
   have c49b1 : decide (65450 ≤ 281474976710656) = true := decide_eq_true c49
   clear c49
   obtain ⟨y304, hy304⟩ : ∃ y_ : List Int, y_ = (List.replicate 65450 0) := ⟨_, rfl⟩
   replace H : ((block_File.f 0 0 (⟨#[]⟩ : ByteArray) 0 0 y304).bind fun t307 => ((block_Disk.f (⟨#[]⟩ : ByteArray) 0 (([t307] : List (List (S73))))).bind fun t313 => ((disk_Wrap.f k2 t313).bind fun bt316 => ((disk_Set_To.f k2 3 (([bt316.1] : List (List Int))) 1).bind fun bt323 => ((disk_Set_Right.f k2 a0 x253001_2).bind fun t329 => (if (t329 == x8_2) = true then ((disk_Set_Bytes.f k2 a0 x253001_2).bind fun t330 => (if ((decide ((t330.length : Int) > 0)) == x8_2) = true then (if x8_2 = true then (if a2 ≥ 1 then (if ((t268 == 0) == (decide (a2 ≤ 3))) = true then (if t268 = 0 then (if t286 = 3 then (if t303 = true then (if (t300.length : Int) = 65500 then (kotatsulaw06_DiskRefuses.j4 k2 (bt323.2.2 == 7)) else (kotatsulaw06_DiskRefuses.j4 k2 false)) else (kotatsulaw06_DiskRefuses.j4 k2 false)) else (kotatsulaw06_DiskRefuses.j4 k2 false)) else (if t268 = 1 then (if t286 = 3 then (if t303 = true then (if (t300.length : Int) = 65500 then (kotatsulaw06_DiskRefuses.j4 k2 (bt323.2.2 == 7)) else (kotatsulaw06_DiskRefuses.j4 k2 false)) else (kotatsulaw06_DiskRefuses.j4 k2 false)) else (kotatsulaw06_DiskRefuses.j4 k2 false)) else (kotatsulaw06_DiskRefuses.j4 k2 false))) else (kotatsulaw06_DiskRefuses.j4 k2 false)) else (if ((t268 == 0) == false) = true then (if t268 = 0 then (if t286 = 3 then (if t303 = true then (if (t300.length : Int) = 65500 then (kotatsulaw06_DiskRefuses.j4 k2 (bt323.2.2 == 7)) else (kotatsulaw06_DiskRefuses.j4 k2 false)) else (kotatsulaw06_DiskRefuses.j4 k2 false)) else (kotatsulaw06_DiskRefuses.j4 k2 false)) else (if t268 = 1 then (if t286 = 3 then (if t303 = true then (if (t300.length : Int) = 65500 then (kotatsulaw06_DiskRefuses.j4 k2 (bt323.2.2 == 7)) else (kotatsulaw06_DiskRefuses.j4 k2 false)) else (kotatsulaw06_DiskRefuses.j4 k2 false)) else (kotatsulaw06_DiskRefuses.j4 k2 false)) else (kotatsulaw06_DiskRefuses.j4 k2 false))) else (kotatsulaw06_DiskRefuses.j4 k2 false))) else (if ((t268 == 0) == false) = true then (if t268 = 0 then (if t286 = 3 then (if t303 = true then (if (t300.length : Int) = 65500 then (kotatsulaw06_DiskRefuses.j4 k2 (bt323.2.2 == 7)) else (kotatsulaw06_DiskRefuses.j4 k2 false)) else (kotatsulaw06_DiskRefuses.j4 k2 false)) else (kotatsulaw06_DiskRefuses.j4 k2 false)) else (if t268 = 1 then (if t286 = 3 then (if t303 = true then (if (t300.length : Int) = 65500 then (kotatsulaw06_DiskRefuses.j4 k2 (bt323.2.2 == 7)) else (kotatsulaw06_DiskRefuses.j4 k2 false)) else (kotatsulaw06_DiskRefuses.j4 k2 false)) else (kotatsulaw06_DiskRefuses.j4 k2 false)) else (kotatsulaw06_DiskRefuses.j4 k2 false))) else (kotatsulaw06_DiskRefuses.j4 k2 false))) else (kotatsulaw06_DiskRefuses.j4 k2 false))) else (kotatsulaw06_DiskRefuses.j4 k2 false))))))) = some r := by first | (rw [hy304]; with_reducible exact H) | (have H2_ := (Option.bind_some _ _).symm.trans H; rw [hy304]; with_reducible exact H2_) | (have H2_ := (Option.bind_some _ _).symm.trans H; with_reducible exact H2_) | with_reducible exact H | (rw [hy304]; exact H) | exact H
   have Ny304 := Aside0.mk hy304
   clear hy304
   replace H := Option.bind_eq_some_iff.mp H
   obtain ⟨t307, A500, H⟩ := H
   replace H : ((block_Disk.f (⟨#[]⟩ : ByteArray) 0 (([t307] : List (List (S73))))).bind fun t313 => ((disk_Wrap.f k2 t313).bind fun bt316 => ((disk_Set_To.f k2 3 (([bt316.1] : List (List Int))) 1).bind fun bt323 => ((disk_Set_Right.f k2 a0 x253001_2).bind fun t329 => (if (t329 == x8_2) = true then ((disk_Set_Bytes.f k2 a0 x253001_2).bind fun t330 => (if ((decide ((t330.length : Int) > 0)) == x8_2) = true then (if x8_2 = true then (if a2 ≥ 1 then (if ((t268 == 0) == (decide (a2 ≤ 3))) = true then (if t268 = 0 then (if t286 = 3 then (if t303 = true then (if (t300.length : Int) = 65500 then (kotatsulaw06_DiskRefuses.j4 k2 (bt323.2.2 == 7)) else (kotatsulaw06_DiskRefuses.j4 k2 false)) else (kotatsulaw06_DiskRefuses.j4 k2 false)) else (kotatsulaw06_DiskRefuses.j4 k2 false)) else (if t268 = 1 then (if t286 = 3 then (if t303 = true then (if (t300.length : Int) = 65500 then (kotatsulaw06_DiskRefuses.j4 k2 (bt323.2.2 == 7)) else (kotatsulaw06_DiskRefuses.j4 k2 false)) else (kotatsulaw06_DiskRefuses.j4 k2 false)) else (kotatsulaw06_DiskRefuses.j4 k2 false)) else (kotatsulaw06_DiskRefuses.j4 k2 false))) else (kotatsulaw06_DiskRefuses.j4 k2 false)) else (if ((t268 == 0) == false) = true then (if t268 = 0 then (if t286 = 3 then (if t303 = true then (if (t300.length : Int) = 65500 then (kotatsulaw06_DiskRefuses.j4 k2 (bt323.2.2 == 7)) else (kotatsulaw06_DiskRefuses.j4 k2 false)) else (kotatsulaw06_DiskRefuses.j4 k2 false)) else (kotatsulaw06_DiskRefuses.j4 k2 false)) else (if t268 = 1 then (if t286 = 3 then (if t303 = true then (if (t300.length : Int) = 65500 then (kotatsulaw06_DiskRefuses.j4 k2 (bt323.2.2 == 7)) else (kotatsulaw06_DiskRefuses.j4 k2 false)) else (kotatsulaw06_DiskRefuses.j4 k2 false)) else (kotatsulaw06_DiskRefuses.j4 k2 false)) else (kotatsulaw06_DiskRefuses.j4 k2 false))) else (kotatsulaw06_DiskRefuses.j4 k2 false))) else (if ((t268 == 0) == false) = true then (if t268 = 0 then (if t286 = 3 then (if t303 = true then (if (t300.length : Int) = 65500 then (kotatsulaw06_DiskRefuses.j4 k2 (bt323.2.2 == 7)) else (kotatsulaw06_DiskRefuses.j4 k2 false)) else (kotatsulaw06_DiskRefuses.j4 k2 false)) else (kotatsulaw06_DiskRefuses.j4 k2 false)) else (if t268 = 1 then (if t286 = 3 then (if t303 = true then (if (t300.length : Int) = 65500 then (kotatsulaw06_DiskRefuses.j4 k2 (bt323.2.2 == 7)) else (kotatsulaw06_DiskRefuses.j4 k2 false)) else (kotatsulaw06_DiskRefuses.j4 k2 false)) else (kotatsulaw06_DiskRefuses.j4 k2 false)) else (kotatsulaw06_DiskRefuses.j4 k2 false))) else (kotatsulaw06_DiskRefuses.j4 k2 false))) else (kotatsulaw06_DiskRefuses.j4 k2 false))) else (kotatsulaw06_DiskRefuses.j4 k2 false)))))) = some r := H
   have A50 := Aside0.mk A500
   clear A500
   obtain ⟨y310, hy310⟩ : ∃ y_ : List (List (S73)), y_ = (([t307] : List (List (S73)))) := ⟨_, rfl⟩
   replace H : ((block_Disk.f (⟨#[]⟩ : ByteArray) 0 y310).bind fun t313 => ((disk_Wrap.f k2 t313).bind fun bt316 => ((disk_Set_To.f k2 3 (([bt316.1] : List (List Int))) 1).bind fun bt323 => ((disk_Set_Right.f k2 a0 x253001_2).bind fun t329 => (if (t329 == x8_2) = true then ((disk_Set_Bytes.f k2 a0 x253001_2).bind fun t330 => (if ((decide ((t330.length : Int) > 0)) == x8_2) = true then (if x8_2 = true then (if a2 ≥ 1 then (if ((t268 == 0) == (decide (a2 ≤ 3))) = true then (if t268 = 0 then (if t286 = 3 then (if t303 = true then (if (t300.length : Int) = 65500 then (kotatsulaw06_DiskRefuses.j4 k2 (bt323.2.2 == 7)) else (kotatsulaw06_DiskRefuses.j4 k2 false)) else (kotatsulaw06_DiskRefuses.j4 k2 false)) else (kotatsulaw06_DiskRefuses.j4 k2 false)) else (if t268 = 1 then (if t286 = 3 then (if t303 = true then (if (t300.length : Int) = 65500 then (kotatsulaw06_DiskRefuses.j4 k2 (bt323.2.2 == 7)) else (kotatsulaw06_DiskRefuses.j4 k2 false)) else (kotatsulaw06_DiskRefuses.j4 k2 false)) else (kotatsulaw06_DiskRefuses.j4 k2 false)) else (kotatsulaw06_DiskRefuses.j4 k2 false))) else (kotatsulaw06_DiskRefuses.j4 k2 false)) else (if ((t268 == 0) == false) = true then (if t268 = 0 then (if t286 = 3 then (if t303 = true then (if (t300.length : Int) = 65500 then (kotatsulaw06_DiskRefuses.j4 k2 (bt323.2.2 == 7)) else (kotatsulaw06_DiskRefuses.j4 k2 false)) else (kotatsulaw06_DiskRefuses.j4 k2 false)) else (kotatsulaw06_DiskRefuses.j4 k2 false)) else (if t268 = 1 then (if t286 = 3 then (if t303 = true then (if (t300.length : Int) = 65500 then (kotatsulaw06_DiskRefuses.j4 k2 (bt323.2.2 == 7)) else (kotatsulaw06_DiskRefuses.j4 k2 false)) else (kotatsulaw06_DiskRefuses.j4 k2 false)) else (kotatsulaw06_DiskRefuses.j4 k2 false)) else (kotatsulaw06_DiskRefuses.j4 k2 false))) else (kotatsulaw06_DiskRefuses.j4 k2 false))) else (if ((t268 == 0) == false) = true then (if t268 = 0 then (if t286 = 3 then (if t303 = true then (if (t300.length : Int) = 65500 then (kotatsulaw06_DiskRefuses.j4 k2 (bt323.2.2 == 7)) else (kotatsulaw06_DiskRefuses.j4 k2 false)) else (kotatsulaw06_DiskRefuses.j4 k2 false)) else (kotatsulaw06_DiskRefuses.j4 k2 false)) else (if t268 = 1 then (if t286 = 3 then (if t303 = true then (if (t300.length : Int) = 65500 then (kotatsulaw06_DiskRefuses.j4 k2 (bt323.2.2 == 7)) else (kotatsulaw06_DiskRefuses.j4 k2 false)) else (kotatsulaw06_DiskRefuses.j4 k2 false)) else (kotatsulaw06_DiskRefuses.j4 k2 false)) else (kotatsulaw06_DiskRefuses.j4 k2 false))) else (kotatsulaw06_DiskRefuses.j4 k2 false))) else (kotatsulaw06_DiskRefuses.j4 k2 false))) else (kotatsulaw06_DiskRefuses.j4 k2 false)))))) = some r := by first | (rw [hy310]; with_reducible exact H) | (have H2_ := (Option.bind_some _ _).symm.trans H; rw [hy310]; with_reducible exact H2_) | (have H2_ := (Option.bind_some _ _).symm.trans H; with_reducible exact H2_) | with_reducible exact H | (rw [hy310]; exact H) | exact H
   have Ny310 := Aside0.mk hy310
   clear hy310
   replace H := Option.bind_eq_some_iff.mp H
   obtain ⟨t313, A510, H⟩ := H
   replace H : ((disk_Wrap.f k2 t313).bind fun bt316 => ((disk_Set_To.f k2 3 (([bt316.1] : List (List Int))) 1).bind fun bt323 => ((disk_Set_Right.f k2 a0 x253001_2).bind fun t329 => (if (t329 == x8_2) = true then ((disk_Set_Bytes.f k2 a0 x253001_2).bind fun t330 => (if ((decide ((t330.length : Int) > 0)) == x8_2) = true then (if x8_2 = true then (if a2 ≥ 1 then (if ((t268 == 0) == (decide (a2 ≤ 3))) = true then (if t268 = 0 then (if t286 = 3 then (if t303 = true then (if (t300.length : Int) = 65500 then (kotatsulaw06_DiskRefuses.j4 k2 (bt323.2.2 == 7)) else (kotatsulaw06_DiskRefuses.j4 k2 false)) else (kotatsulaw06_DiskRefuses.j4 k2 false)) else (kotatsulaw06_DiskRefuses.j4 k2 false)) else (if t268 = 1 then (if t286 = 3 then (if t303 = true then (if (t300.length : Int) = 65500 then (kotatsulaw06_DiskRefuses.j4 k2 (bt323.2.2 == 7)) else (kotatsulaw06_DiskRefuses.j4 k2 false)) else (kotatsulaw06_DiskRefuses.j4 k2 false)) else (kotatsulaw06_DiskRefuses.j4 k2 false)) else (kotatsulaw06_DiskRefuses.j4 k2 false))) else (kotatsulaw06_DiskRefuses.j4 k2 false)) else (if ((t268 == 0) == false) = true then (if t268 = 0 then (if t286 = 3 then (if t303 = true then (if (t300.length : Int) = 65500 then (kotatsulaw06_DiskRefuses.j4 k2 (bt323.2.2 == 7)) else (kotatsulaw06_DiskRefuses.j4 k2 false)) else (kotatsulaw06_DiskRefuses.j4 k2 false)) else (kotatsulaw06_DiskRefuses.j4 k2 false)) else (if t268 = 1 then (if t286 = 3 then (if t303 = true then (if (t300.length : Int) = 65500 then (kotatsulaw06_DiskRefuses.j4 k2 (bt323.2.2 == 7)) else (kotatsulaw06_DiskRefuses.j4 k2 false)) else (kotatsulaw06_DiskRefuses.j4 k2 false)) else (kotatsulaw06_DiskRefuses.j4 k2 false)) else (kotatsulaw06_DiskRefuses.j4 k2 false))) else (kotatsulaw06_DiskRefuses.j4 k2 false))) else (if ((t268 == 0) == false) = true then (if t268 = 0 then (if t286 = 3 then (if t303 = true then (if (t300.length : Int) = 65500 then (kotatsulaw06_DiskRefuses.j4 k2 (bt323.2.2 == 7)) else (kotatsulaw06_DiskRefuses.j4 k2 false)) else (kotatsulaw06_DiskRefuses.j4 k2 false)) else (kotatsulaw06_DiskRefuses.j4 k2 false)) else (if t268 = 1 then (if t286 = 3 then (if t303 = true then (if (t300.length : Int) = 65500 then (kotatsulaw06_DiskRefuses.j4 k2 (bt323.2.2 == 7)) else (kotatsulaw06_DiskRefuses.j4 k2 false)) else (kotatsulaw06_DiskRefuses.j4 k2 false)) else (kotatsulaw06_DiskRefuses.j4 k2 false)) else (kotatsulaw06_DiskRefuses.j4 k2 false))) else (kotatsulaw06_DiskRefuses.j4 k2 false))) else (kotatsulaw06_DiskRefuses.j4 k2 false))) else (kotatsulaw06_DiskRefuses.j4 k2 false))))) = some r := H
   have A51 := Aside0.mk A510
   clear A510
   replace H := Option.bind_eq_some_iff.mp H
   obtain ⟨⟨t316, t317⟩, A520, H⟩ := H
   replace H : ((disk_Set_To.f k2 3 (([t316] : List (List Int))) 1).bind fun bt323 => ((disk_Set_Right.f k2 a0 x253001_2).bind fun t329 => (if (t329 == x8_2) = true then ((disk_Set_Bytes.f k2 a0 x253001_2).bind fun t330 => (if ((decide ((t330.length : Int) > 0)) == x8_2) = true then (if x8_2 = true then (if a2 ≥ 1 then (if ((t268 == 0) == (decide (a2 ≤ 3))) = true then (if t268 = 0 then (if t286 = 3 then (if t303 = true then (if (t300.length : Int) = 65500 then (kotatsulaw06_DiskRefuses.j4 k2 (bt323.2.2 == 7)) else (kotatsulaw06_DiskRefuses.j4 k2 false)) else (kotatsulaw06_DiskRefuses.j4 k2 false)) else (kotatsulaw06_DiskRefuses.j4 k2 false)) else (if t268 = 1 then (if t286 = 3 then (if t303 = true then (if (t300.length : Int) = 65500 then (kotatsulaw06_DiskRefuses.j4 k2 (bt323.2.2 == 7)) else (kotatsulaw06_DiskRefuses.j4 k2 false)) else (kotatsulaw06_DiskRefuses.j4 k2 false)) else (kotatsulaw06_DiskRefuses.j4 k2 false)) else (kotatsulaw06_DiskRefuses.j4 k2 false))) else (kotatsulaw06_DiskRefuses.j4 k2 false)) else (if ((t268 == 0) == false) = true then (if t268 = 0 then (if t286 = 3 then (if t303 = true then (if (t300.length : Int) = 65500 then (kotatsulaw06_DiskRefuses.j4 k2 (bt323.2.2 == 7)) else (kotatsulaw06_DiskRefuses.j4 k2 false)) else (kotatsulaw06_DiskRefuses.j4 k2 false)) else (kotatsulaw06_DiskRefuses.j4 k2 false)) else (if t268 = 1 then (if t286 = 3 then (if t303 = true then (if (t300.length : Int) = 65500 then (kotatsulaw06_DiskRefuses.j4 k2 (bt323.2.2 == 7)) else (kotatsulaw06_DiskRefuses.j4 k2 false)) else (kotatsulaw06_DiskRefuses.j4 k2 false)) else (kotatsulaw06_DiskRefuses.j4 k2 false)) else (kotatsulaw06_DiskRefuses.j4 k2 false))) else (kotatsulaw06_DiskRefuses.j4 k2 false))) else (if ((t268 == 0) == false) = true then (if t268 = 0 then (if t286 = 3 then (if t303 = true then (if (t300.length : Int) = 65500 then (kotatsulaw06_DiskRefuses.j4 k2 (bt323.2.2 == 7)) else (kotatsulaw06_DiskRefuses.j4 k2 false)) else (kotatsulaw06_DiskRefuses.j4 k2 false)) else (kotatsulaw06_DiskRefuses.j4 k2 false)) else (if t268 = 1 then (if t286 = 3 then (if t303 = true then (if (t300.length : Int) = 65500 then (kotatsulaw06_DiskRefuses.j4 k2 (bt323.2.2 == 7)) else (kotatsulaw06_DiskRefuses.j4 k2 false)) else (kotatsulaw06_DiskRefuses.j4 k2 false)) else (kotatsulaw06_DiskRefuses.j4 k2 false)) else (kotatsulaw06_DiskRefuses.j4 k2 false))) else (kotatsulaw06_DiskRefuses.j4 k2 false))) else (kotatsulaw06_DiskRefuses.j4 k2 false))) else (kotatsulaw06_DiskRefuses.j4 k2 false)))) = some r := H
   have A52 := Aside0.mk A520
   clear A520
   obtain ⟨y320, hy320⟩ : ∃ y_ : List (List Int), y_ = (([t316] : List (List Int))) := ⟨_, rfl⟩
   replace H : ((disk_Set_To.f k2 3 y320 1).bind fun bt323 => ((disk_Set_Right.f k2 a0 x253001_2).bind fun t329 => (if (t329 == x8_2) = true then ((disk_Set_Bytes.f k2 a0 x253001_2).bind fun t330 => (if ((decide ((t330.length : Int) > 0)) == x8_2) = true then (if x8_2 = true then (if a2 ≥ 1 then (if ((t268 == 0) == (decide (a2 ≤ 3))) = true then (if t268 = 0 then (if t286 = 3 then (if t303 = true then (if (t300.length : Int) = 65500 then (kotatsulaw06_DiskRefuses.j4 k2 (bt323.2.2 == 7)) else (kotatsulaw06_DiskRefuses.j4 k2 false)) else (kotatsulaw06_DiskRefuses.j4 k2 false)) else (kotatsulaw06_DiskRefuses.j4 k2 false)) else (if t268 = 1 then (if t286 = 3 then (if t303 = true then (if (t300.length : Int) = 65500 then (kotatsulaw06_DiskRefuses.j4 k2 (bt323.2.2 == 7)) else (kotatsulaw06_DiskRefuses.j4 k2 false)) else (kotatsulaw06_DiskRefuses.j4 k2 false)) else (kotatsulaw06_DiskRefuses.j4 k2 false)) else (kotatsulaw06_DiskRefuses.j4 k2 false))) else (kotatsulaw06_DiskRefuses.j4 k2 false)) else (if ((t268 == 0) == false) = true then (if t268 = 0 then (if t286 = 3 then (if t303 = true then (if (t300.length : Int) = 65500 then (kotatsulaw06_DiskRefuses.j4 k2 (bt323.2.2 == 7)) else (kotatsulaw06_DiskRefuses.j4 k2 false)) else (kotatsulaw06_DiskRefuses.j4 k2 false)) else (kotatsulaw06_DiskRefuses.j4 k2 false)) else (if t268 = 1 then (if t286 = 3 then (if t303 = true then (if (t300.length : Int) = 65500 then (kotatsulaw06_DiskRefuses.j4 k2 (bt323.2.2 == 7)) else (kotatsulaw06_DiskRefuses.j4 k2 false)) else (kotatsulaw06_DiskRefuses.j4 k2 false)) else (kotatsulaw06_DiskRefuses.j4 k2 false)) else (kotatsulaw06_DiskRefuses.j4 k2 false))) else (kotatsulaw06_DiskRefuses.j4 k2 false))) else (if ((t268 == 0) == false) = true then (if t268 = 0 then (if t286 = 3 then (if t303 = true then (if (t300.length : Int) = 65500 then (kotatsulaw06_DiskRefuses.j4 k2 (bt323.2.2 == 7)) else (kotatsulaw06_DiskRefuses.j4 k2 false)) else (kotatsulaw06_DiskRefuses.j4 k2 false)) else (kotatsulaw06_DiskRefuses.j4 k2 false)) else (if t268 = 1 then (if t286 = 3 then (if t303 = true then (if (t300.length : Int) = 65500 then (kotatsulaw06_DiskRefuses.j4 k2 (bt323.2.2 == 7)) else (kotatsulaw06_DiskRefuses.j4 k2 false)) else (kotatsulaw06_DiskRefuses.j4 k2 false)) else (kotatsulaw06_DiskRefuses.j4 k2 false)) else (kotatsulaw06_DiskRefuses.j4 k2 false))) else (kotatsulaw06_DiskRefuses.j4 k2 false))) else (kotatsulaw06_DiskRefuses.j4 k2 false))) else (kotatsulaw06_DiskRefuses.j4 k2 false)))) = some r := by first | (rw [hy320]; with_reducible exact H) | (have H2_ := (Option.bind_some _ _).symm.trans H; rw [hy320]; with_reducible exact H2_) | (have H2_ := (Option.bind_some _ _).symm.trans H; with_reducible exact H2_) | with_reducible exact H | (rw [hy320]; exact H) | exact H
   have Ny320 := Aside0.mk hy320
   clear hy320
   replace H := Option.bind_eq_some_iff.mp H
   obtain ⟨⟨t323, t324, t327⟩, A530, H⟩ := H
   replace H : ((disk_Set_Right.f k2 a0 x253001_2).bind fun t329 => (if (t329 == x8_2) = true then ((disk_Set_Bytes.f k2 a0 x253001_2).bind fun t330 => (if ((decide ((t330.length : Int) > 0)) == x8_2) = true then (if x8_2 = true then (if a2 ≥ 1 then (if ((t268 == 0) == (decide (a2 ≤ 3))) = true then (if t268 = 0 then (if t286 = 3 then (if t303 = true then (if (t300.length : Int) = 65500 then (kotatsulaw06_DiskRefuses.j4 k2 (t327 == 7)) else (kotatsulaw06_DiskRefuses.j4 k2 false)) else (kotatsulaw06_DiskRefuses.j4 k2 false)) else (kotatsulaw06_DiskRefuses.j4 k2 false)) else (if t268 = 1 then (if t286 = 3 then (if t303 = true then (if (t300.length : Int) = 65500 then (kotatsulaw06_DiskRefuses.j4 k2 (t327 == 7)) else (kotatsulaw06_DiskRefuses.j4 k2 false)) else (kotatsulaw06_DiskRefuses.j4 k2 false)) else (kotatsulaw06_DiskRefuses.j4 k2 false)) else (kotatsulaw06_DiskRefuses.j4 k2 false))) else (kotatsulaw06_DiskRefuses.j4 k2 false)) else (if ((t268 == 0) == false) = true then (if t268 = 0 then (if t286 = 3 then (if t303 = true then (if (t300.length : Int) = 65500 then (kotatsulaw06_DiskRefuses.j4 k2 (t327 == 7)) else (kotatsulaw06_DiskRefuses.j4 k2 false)) else (kotatsulaw06_DiskRefuses.j4 k2 false)) else (kotatsulaw06_DiskRefuses.j4 k2 false)) else (if t268 = 1 then (if t286 = 3 then (if t303 = true then (if (t300.length : Int) = 65500 then (kotatsulaw06_DiskRefuses.j4 k2 (t327 == 7)) else (kotatsulaw06_DiskRefuses.j4 k2 false)) else (kotatsulaw06_DiskRefuses.j4 k2 false)) else (kotatsulaw06_DiskRefuses.j4 k2 false)) else (kotatsulaw06_DiskRefuses.j4 k2 false))) else (kotatsulaw06_DiskRefuses.j4 k2 false))) else (if ((t268 == 0) == false) = true then (if t268 = 0 then (if t286 = 3 then (if t303 = true then (if (t300.length : Int) = 65500 then (kotatsulaw06_DiskRefuses.j4 k2 (t327 == 7)) else (kotatsulaw06_DiskRefuses.j4 k2 false)) else (kotatsulaw06_DiskRefuses.j4 k2 false)) else (kotatsulaw06_DiskRefuses.j4 k2 false)) else (if t268 = 1 then (if t286 = 3 then (if t303 = true then (if (t300.length : Int) = 65500 then (kotatsulaw06_DiskRefuses.j4 k2 (t327 == 7)) else (kotatsulaw06_DiskRefuses.j4 k2 false)) else (kotatsulaw06_DiskRefuses.j4 k2 false)) else (kotatsulaw06_DiskRefuses.j4 k2 false)) else (kotatsulaw06_DiskRefuses.j4 k2 false))) else (kotatsulaw06_DiskRefuses.j4 k2 false))) else (kotatsulaw06_DiskRefuses.j4 k2 false))) else (kotatsulaw06_DiskRefuses.j4 k2 false))) = some r := H
   have A53 := Aside0.mk A530
   clear A530
   have HC54 := Aside0.mk H
   clear H
   have hcz55_0 : wr.cell? ⟨gb252, 0, none⟩ = some (.int .u8 a0) := (blk_cell BK252.out 0).trans rfl
   have hcz55_1 : wr.cell? ⟨gb252, 1, none⟩ = some (u253001) := (blk_cell BK252.out 1).trans rfl
   have hfz55_0 := blk_frozen BK252.out 0
   have hfz55_1 := blk_frozen BK252.out 1
   obtain ⟨Ao56, co56, eo56⟩ := Kd.N_slice HO_253001.out
   subst eo56
   go_upto_region 21 with (first | ((with_reducible refine gate_callee (f := 26) rfl ?_); refine goesL_ (some 88) rfl rfl Try.func26 (by kernel_rfl) rfl #[.agg #[.int .u8 a0, .slice Ao56 x253001_2.length co56], .int .u8 a2] rfl (by (try simp only [List.map_toArray, List.map_cons, List.map_nil]); first | done | rfl | (simp only [List.length_drop, List.length_take]; rfl)) ?_; (with_reducible refine (disk_Set_To.calls k2 a0 _ _ x253001_2 a2 t264 t265 t268 _ ?side1 ?side2 A40.out).mono ?_); (case side1 => repeat (first | exact (Kd.N_reads' HO_253001.out).2.2 | (with_reducible refine Kd.C_alloc ?_ _) | (with_reducible refine Kd.C_drewN ?_ _) | (with_reducible refine Kd.C_drew ?_))); (case side2 => exact (Kd.N_reads' HO_253001.out).2.1); rintro e w57 ⟨v266, rfl, ho0, hb⟩; refine ⟨_, rfl, ?_⟩; have n0_ := Aside0.mk (Kd.N_below (by (with_reducible repeat (first | apply Kd.N_alloc | apply Kd.N_drewN | apply Kd.N_drew)); exact HO_253001.out) hb); have n1_ := Aside0.mk (Kd.V_lower (Kd.V_mono (ok' := fun k_ => some k_ ≠ (.slice Ao56 x253001_2.length co56 : Value).ownBlock ∧ k_ ≠ gb252) ho0 (fun k_ hk_ => ⟨(Kd.fresh' (Kd.N_lt (by (with_reducible repeat (first | apply Kd.N_alloc | apply Kd.N_drewN | apply Kd.N_drew)); exact HO_253001.out)) k_ hk_), (Kd.freshB (g := gb252) (o := .cells #[.int .u8 a0, .slice Ao56 x253001_2.length co56] 30 (0, 0)) (by (with_reducible repeat (first | refine blk_drewN ?_ _ | refine blk_drew ?_ | refine blk_alloc ?_ _)); exact BK252.out) k_ hk_)⟩)) (below_size (by repeat (first | (with_reducible first | exact HB.out | apply below_alloc | apply pw_below_drewN | apply below_drew1 | refine below_set ?_ GE252.out) | exact HB.out)))); have n2_ := Aside0.mk (blk_below (g := gb252) (o := .cells #[.int .u8 a0, .slice Ao56 x253001_2.length co56] 30 (0, 0)) (by (with_reducible repeat (first | refine blk_drewN ?_ _ | refine blk_drew ?_ | refine blk_alloc ?_ _)); exact BK252.out) hb); have n3_ := Aside0.mk (below_step (by repeat (first | (with_reducible first | exact HB.out | apply below_alloc | apply pw_below_drewN | apply below_drew1 | refine below_set ?_ GE252.out) | exact HB.out)) hb); clear HO_253001; clear BK252; clear HB; have HO_253001 := n0_; have HO267 := n1_; have BK252 := n2_; have HB := n3_; clear n0_ n1_ n2_ n3_; (try clear hb); (try clear hb2); (try clear hk); (try clear hi); (try clear ho0)) | ((with_reducible refine gate_dst (N := 12) rfl ?_); (try (refine gate_guard (by rfl) ?_; dsimp only)); refine box_event ?hg (N := 12) ?hd (cs := #[.int .u8 0, .slice none 0 0]) (t := 30) ?hr ?_; (case hd => rfl); (case hg => rfl); (case hr => first | (go_simp; done) | (go_simp; rfl)); intro gb269 hg w58 hbox hb; have n0_ := Aside0.mk (Kd.N_below (Kd.N_elderB (by (with_reducible repeat (first | apply Kd.N_alloc | apply Kd.N_drewN | apply Kd.N_drew)); exact HO_253001.out) gb269 (Nat.le_of_eq hg.symm)) hb); have n1_ := Aside0.mk (Kd.V_below (Kd.V_elderB (by (with_reducible repeat (first | apply Kd.V_alloc | apply Kd.V_drewN | apply Kd.V_drew)); exact HO267.out) gb269 (Nat.le_of_eq hg.symm)) hb); have n2_ := Aside0.mk (blk_below (g := gb252) (o := .cells #[.int .u8 a0, .slice Ao56 x253001_2.length co56] 30 (0, 0)) (by (with_reducible repeat (first | refine blk_drewN ?_ _ | refine blk_drew ?_ | refine blk_alloc ?_ _)); exact BK252.out) hb); have n3_ := Aside0.mk (below_step (by repeat (first | (with_reducible first | exact HB.out | apply below_alloc | apply pw_below_drewN | apply below_drew1 | refine below_set ?_ GE252.out) | exact HB.out)) hb); have n4_ := Aside0.mk (hbox); have n5_ := Aside0.mk ((by rw [hg]; exact (below_size (by repeat (first | (with_reducible first | exact HB.out | apply below_alloc | apply pw_below_drewN | apply below_drew1 | refine below_set ?_ GE252.out) | exact HB.out))) : w.heap.size ≤ gb269)); have n6_ := Aside0.mk ((by rw [hg]; exact (below_size (by repeat (first | (with_reducible first | exact HB.out | apply below_alloc | apply pw_below_drewN | apply below_drew1 | refine below_set ?_ GE252.out) | exact HB.out))) : w.heap.size ≤ gb269)); have n7_ := Aside0.mk ((by rw [hg]; exact Nat.ne_of_lt (blk_lt (g := gb252) (o := .cells #[.int .u8 a0, .slice Ao56 x253001_2.length co56] 30 (0, 0)) (by (with_reducible repeat (first | refine blk_drewN ?_ _ | refine blk_drew ?_ | refine blk_alloc ?_ _)); exact BK252.out)) : gb252 ≠ gb269)); have n8_ := Aside0.mk ((by rw [hg]; exact Nat.ne_of_gt (blk_lt (g := gb252) (o := .cells #[.int .u8 a0, .slice Ao56 x253001_2.length co56] 30 (0, 0)) (by (with_reducible repeat (first | refine blk_drewN ?_ _ | refine blk_drew ?_ | refine blk_alloc ?_ _)); exact BK252.out)) : gb269 ≠ gb252)); clear HO_253001; clear HO267; clear BK252; clear HB; have HO_253001 := n0_; have HO267 := n1_; have BK252 := n2_; have HB := n3_; have BK269 := n4_; have GW269 := n5_; have GE269 := n6_; have NB252_269 := n7_; have NB269_252 := n8_; clear n0_ n1_ n2_ n3_ n4_ n5_ n6_ n7_ n8_; clear hb hbox hg; have hnb59 := NB269_252.out; have hnc59 := NB252_269.out; have hcz60_0 : w58.cell? ⟨gb269, 0, none⟩ = some (.int .u8 0) := (blk_cell BK269.out 0).trans rfl; have hcz60_1 : w58.cell? ⟨gb269, 1, none⟩ = some (.slice none 0 0) := (blk_cell BK269.out 1).trans rfl; have hfz60_0 := blk_frozen BK269.out 0; have hfz60_1 := blk_frozen BK269.out 1; obtain ⟨Ao61, co61, eo61⟩ := Kd.V_slice HO267.out; subst eo61) | ((with_reducible refine gate_dst (N := 91) rfl ?_); (try (refine gate_guard (by rfl) ?_; dsimp only)); refine Kd.R_make (Kd.int .u8) _ 5 rfl (N := 91) rfl 22 _ _ rfl 65536 rfl rfl Try.underlying22 (.int .u8 0) 1 info5 rfl (by decide) (by omega) 0 (ok := fun _ => True) (okp := fun _ => True) rfl (fun _ hk => hk) trivial (by omega) (by omega) (Below.refl _ _) (Nat.le_refl _) ?_; intro v271 w62 ho63 hb hg_ hnew_; clear hg_ hnew_; (first | rw [← Ny270.out] at ho63 | (simp only [Int.reduceToNat] at ho63; rw [← Ny270.out] at ho63)); have n0_ := Aside0.mk (Kd.N_elder' (by (with_reducible repeat (first | apply Kd.N_alloc | apply Kd.N_drewN | apply Kd.N_drew)); exact (Kd.N_mono (Kd.N_far (p := ⟨gb269, 1, none⟩) (Kd.N_far (p := ⟨gb269, 0, none⟩) (Kd.N_mono HO_253001.out (fun k_ hk => (⟨hk, hk.2⟩ : _ ∧ k_ ≠ gb269))) (fun _ hk => hk.2) (.int .u8 t264)) (fun _ hk => hk.2) (.slice Ao61 t265.length co61)) (fun _ h_ => h_.1))) (Kd.R_base ho63) hb); have n1_ := Aside0.mk (Kd.V_elder' (by (with_reducible repeat (first | apply Kd.V_alloc | apply Kd.V_drewN | apply Kd.V_drew)); exact (Kd.V_mono (Kd.V_far (p := ⟨gb269, 1, none⟩) (Kd.V_far (p := ⟨gb269, 0, none⟩) (Kd.V_mono HO267.out (fun k_ hk => (⟨hk, hk.2⟩ : _ ∧ k_ ≠ gb269))) (fun _ hk => hk.2) (.int .u8 t264)) (fun _ hk => hk.2) (.slice Ao61 t265.length co61)) (fun _ h_ => h_.1))) (Kd.R_base ho63) hb); have n2_ := Aside0.mk (Kd.R_lower ho63 (below_size (by repeat (first | (with_reducible first | exact HB.out | apply below_alloc | apply pw_below_drewN | apply below_drew1 | refine below_set ?_ GE252.out | refine below_set ?_ GE269.out) | exact HB.out)))); have n3_ := Aside0.mk (blk_below (g := gb252) (o := .cells #[.int .u8 a0, .slice Ao56 x253001_2.length co56] 30 (0, 0)) (by (with_reducible repeat (first | refine blk_drewN ?_ _ | refine blk_drew ?_ | refine blk_alloc ?_ _)); refine blk_far ?_ NB252_269.out _; (with_reducible repeat (first | refine blk_drewN ?_ _ | refine blk_drew ?_ | refine blk_alloc ?_ _)); refine blk_far ?_ NB252_269.out _; (with_reducible repeat (first | refine blk_drewN ?_ _ | refine blk_drew ?_ | refine blk_alloc ?_ _)); exact BK252.out) hb); have n4_ := Aside0.mk (blk_below (g := gb269) (o := .cells #[.int .u8 t264, .slice Ao61 t265.length co61] 30 (0, 0)) (by (with_reducible repeat (first | refine blk_drewN ?_ _ | refine blk_drew ?_ | refine blk_alloc ?_ _)); refine blk_put (cs := #[.int .u8 t264, .slice none 0 0]) ?_ 1 _ rfl; (with_reducible repeat (first | refine blk_drewN ?_ _ | refine blk_drew ?_ | refine blk_alloc ?_ _)); refine blk_put (cs := #[.int .u8 0, .slice none 0 0]) ?_ 0 _ rfl; (with_reducible repeat (first | refine blk_drewN ?_ _ | refine blk_drew ?_ | refine blk_alloc ?_ _)); exact BK269.out) hb); have n5_ := Aside0.mk (below_step (by repeat (first | (with_reducible first | exact HB.out | apply below_alloc | apply pw_below_drewN | apply below_drew1 | refine below_set ?_ GE252.out | refine below_set ?_ GE269.out) | exact HB.out)) hb); clear HO_253001; clear HO267; clear BK252; clear BK269; clear HB; have HO_253001 := n0_; have HO267 := n1_; have HO272 := n2_; have BK252 := n3_; have BK269 := n4_; have HB := n5_; clear n0_ n1_ n2_ n3_ n4_ n5_; clear hb ho63; obtain ⟨Ao64, co64, eo64⟩ := Kd.R_slice HO272.out; subst eo64) | ((with_reducible refine gate_dst (N := 92) rfl ?_); (try (refine gate_guard (by rfl) ?_; dsimp only)); refine Kd.N_lit (Kd.slice 5 (Kd.int .u8)) _ 22 ?hg (N' := 92) ?hd (xs := ([y270] : List (List Int))) (inner := [.slice Ao64 y270.length co64]) (ok := (fun k_ => ((some k_ ≠ (.slice Ao56 x253001_2.length co56 : Value).ownBlock ∧ k_ ≠ gb252) ∧ (some k_ = (.slice Ao64 y270.length co64 : Value).ownBlock ∨ k_ = w62.heap.size)))) (okp := (fun k_ => ((some k_ ≠ (.slice Ao56 x253001_2.length co56 : Value).ownBlock ∧ k_ ≠ gb252) ∧ (some k_ = (.slice Ao64 y270.length co64 : Value).ownBlock ∨ k_ = w62.heap.size)))) ?hr ?hp (fun _ hk => hk) ⟨((show ∀ k_, w62.heap.size ≤ k_ → (fun k_ => some k_ ≠ (.slice Ao56 x253001_2.length co56 : Value).ownBlock ∧ k_ ≠ gb252) k_ from fun k_ hk => ⟨Kd.fresh' (Kd.N_lt (by (with_reducible repeat (first | apply Kd.N_alloc | apply Kd.N_drewN | apply Kd.N_drew)); exact HO_253001.out)) k_ hk, Kd.freshB (g := gb252) (o := .cells #[.int .u8 a0, .slice Ao56 x253001_2.length co56] 30 (0, 0)) (by (with_reducible repeat (first | refine blk_drewN ?_ _ | refine blk_drew ?_ | refine blk_alloc ?_ _)); exact BK252.out) k_ hk⟩) _ (Nat.le_refl _)), Or.inr rfl⟩ (Below.refl _ _) (Nat.le_refl _) (by simp) ?_; (case hd => rfl); (case hg => rfl); (case hr => first | (go_simp; done) | (go_simp; rfl)); (case hp => exact (Reps.one (show Kd.FK (Kd.slice 5 (Kd.int .u8)) _ _ y270 [.slice Ao64 y270.length co64] from (Kd.FK_slice_mk (Kd.R_reads' (Kd.R_mono (ok' := (fun k_ => ((some k_ ≠ (.slice Ao56 x253001_2.length co56 : Value).ownBlock ∧ k_ ≠ gb252) ∧ (some k_ = (.slice Ao64 y270.length co64 : Value).ownBlock ∨ k_ = w62.heap.size)))) (Kd.R_tight2 rfl (Kd.R_mono (ok' := (fun k_ => some k_ ≠ (.slice Ao56 x253001_2.length co56 : Value).ownBlock ∧ k_ ≠ gb252)) (Kd.R_types (Kd.R_apart' (HO272.out) (Kd.N_typed HO_253001.out) (by decide)) BK252.out (by decide)) (fun k_ hk => ⟨hk.1.2, hk.2⟩))) (fun k_ hk => ⟨hk.2, Or.inl hk.1⟩))).2.1 (Kd.R_F (Kd.R_mono (ok' := (fun k_ => ((some k_ ≠ (.slice Ao56 x253001_2.length co56 : Value).ownBlock ∧ k_ ≠ gb252) ∧ (some k_ = (.slice Ao64 y270.length co64 : Value).ownBlock ∨ k_ = w62.heap.size)))) (Kd.R_tight2 rfl (Kd.R_mono (ok' := (fun k_ => some k_ ≠ (.slice Ao56 x253001_2.length co56 : Value).ownBlock ∧ k_ ≠ gb252)) (Kd.R_types (Kd.R_apart' (HO272.out) (Kd.N_typed HO_253001.out) (by decide)) BK252.out (by decide)) (fun k_ hk => ⟨hk.1.2, hk.2⟩))) (fun k_ hk => ⟨hk.2, Or.inl hk.1⟩))))) (Reps.none _ _))); intro v274 w65 ho66 hb hg_ hnew_; have EB := Aside0.mk (show v274.ownBlock = some w62.heap.size from (by obtain ⟨b_, hb1_, hb2_⟩ := hnew_; rcases (ho66.1 b_ hb1_).2 with h2_ | h2_; exact absurd (Kd.R_lt HO272.out b_ h2_.symm) (by omega); rw [hb1_, h2_])); have EXr := Aside0.mk (Kd.R_below HO272.out hb); clear hg_ hnew_; (first | rw [← Ny273.out] at ho66 | (simp only [Int.reduceToNat] at ho66; rw [← Ny273.out] at ho66)); have n0_ := Aside0.mk (Kd.N_elder' (by (with_reducible repeat (first | apply Kd.N_alloc | apply Kd.N_drewN | apply Kd.N_drew)); exact HO_253001.out) (Kd.N_base ho66) hb); have n1_ := Aside0.mk (Kd.N_lower ho66 (below_size (by repeat (first | (with_reducible first | exact HB.out | apply below_alloc | apply pw_below_drewN | apply below_drew1 | refine below_set ?_ GE252.out) | exact HB.out)))); have n2_ := Aside0.mk (blk_below (g := gb252) (o := .cells #[.int .u8 a0, .slice Ao56 x253001_2.length co56] 30 (0, 0)) (by (with_reducible repeat (first | refine blk_drewN ?_ _ | refine blk_drew ?_ | refine blk_alloc ?_ _)); exact BK252.out) hb); have n3_ := Aside0.mk (below_step (by repeat (first | (with_reducible first | exact HB.out | apply below_alloc | apply pw_below_drewN | apply below_drew1 | refine below_set ?_ GE252.out) | exact HB.out)) hb); clear HO_253001; clear BK252; clear HB; clear HO272; have HO_253001 := n0_; have HO275 := n1_; have BK252 := n2_; have HB := n3_; clear n0_ n1_ n2_ n3_; clear hb ho66; obtain ⟨Ao67, co67, eo67⟩ := Kd.N_slice HO275.out; subst eo67) | ((with_reducible refine gate_dst (N := 14) rfl ?_); (try (refine gate_guard (by rfl) ?_; dsimp only)); refine box_event ?hg (N := 14) ?hd (cs := #[.int .u8 0, .slice none 0 0]) (t := 30) ?hr ?_; (case hd => rfl); (case hg => rfl); (case hr => first | (go_simp; done) | (go_simp; rfl)); intro gb276 hg w68 hbox hb; replace EXr := Aside0.mk (Kd.R_below (Kd.R_elderB (by (with_reducible repeat (first | apply Kd.R_alloc | apply Kd.R_drewN | apply Kd.R_drew)); exact EXr.out) gb276 (Nat.le_of_eq hg.symm)) hb); have n0_ := Aside0.mk (Kd.N_below (Kd.N_elderB (by (with_reducible repeat (first | apply Kd.N_alloc | apply Kd.N_drewN | apply Kd.N_drew)); exact HO_253001.out) gb276 (Nat.le_of_eq hg.symm)) hb); have n1_ := Aside0.mk (Kd.N_below (Kd.N_elderB (by (with_reducible repeat (first | apply Kd.N_alloc | apply Kd.N_drewN | apply Kd.N_drew)); exact HO275.out) gb276 (Nat.le_of_eq hg.symm)) hb); have n2_ := Aside0.mk (blk_below (g := gb252) (o := .cells #[.int .u8 a0, .slice Ao56 x253001_2.length co56] 30 (0, 0)) (by (with_reducible repeat (first | refine blk_drewN ?_ _ | refine blk_drew ?_ | refine blk_alloc ?_ _)); exact BK252.out) hb); have n3_ := Aside0.mk (below_step (by repeat (first | (with_reducible first | exact HB.out | apply below_alloc | apply pw_below_drewN | apply below_drew1 | refine below_set ?_ GE252.out) | exact HB.out)) hb); have n4_ := Aside0.mk (hbox); have n5_ := Aside0.mk ((by rw [hg]; exact (below_size (by repeat (first | (with_reducible first | exact HB.out | apply below_alloc | apply pw_below_drewN | apply below_drew1 | refine below_set ?_ GE252.out) | exact HB.out))) : w.heap.size ≤ gb276)); have n6_ := Aside0.mk ((by rw [hg]; exact (below_size (by repeat (first | (with_reducible first | exact HB.out | apply below_alloc | apply pw_below_drewN | apply below_drew1 | refine below_set ?_ GE252.out) | exact HB.out))) : w.heap.size ≤ gb276)); have n7_ := Aside0.mk ((by rw [hg]; exact Nat.ne_of_lt (blk_lt (g := gb252) (o := .cells #[.int .u8 a0, .slice Ao56 x253001_2.length co56] 30 (0, 0)) (by (with_reducible repeat (first | refine blk_drewN ?_ _ | refine blk_drew ?_ | refine blk_alloc ?_ _)); exact BK252.out)) : gb252 ≠ gb276)); have n8_ := Aside0.mk ((by rw [hg]; exact Nat.ne_of_gt (blk_lt (g := gb252) (o := .cells #[.int .u8 a0, .slice Ao56 x253001_2.length co56] 30 (0, 0)) (by (with_reducible repeat (first | refine blk_drewN ?_ _ | refine blk_drew ?_ | refine blk_alloc ?_ _)); exact BK252.out)) : gb276 ≠ gb252)); clear HO_253001; clear HO275; clear BK252; clear HB; have HO_253001 := n0_; have HO275 := n1_; have BK252 := n2_; have HB := n3_; have BK276 := n4_; have GW276 := n5_; have GE276 := n6_; have NB252_276 := n7_; have NB276_252 := n8_; clear n0_ n1_ n2_ n3_ n4_ n5_ n6_ n7_ n8_; clear hb hbox hg; have hnb69 := NB276_252.out; have hnc69 := NB252_276.out; have hcz70_0 : w68.cell? ⟨gb276, 0, none⟩ = some (.int .u8 0) := (blk_cell BK276.out 0).trans rfl; have hcz70_1 : w68.cell? ⟨gb276, 1, none⟩ = some (.slice none 0 0) := (blk_cell BK276.out 1).trans rfl; have hfz70_0 := blk_frozen BK276.out 0; have hfz70_1 := blk_frozen BK276.out 1) | ((with_reducible refine gate_store (t := 30) (p := 14) rfl ?_); refine store_event (t := 30) (p := 14) (v := ?vo_w71) (w1 := ((w68.setCell ⟨gb276, 0, none⟩ (.int .u8 3)).setCell ⟨gb276, 1, none⟩ (.slice Ao67 y273.length co67))) ?hg ?ho ?hn ?hr ?_; (case ho => rfl); (case hg => rfl); (case hn => rfl); (case hr => first | (go_simp; done) | (go_simp; rfl)); intro w71 hw; have n0_ : Aside0 (Kd.N (Kd.slice 5 (Kd.int .u8)) 22 w71 w.heap.size (fun k_ => some k_ ≠ (.slice Ao67 y273.length co67 : Value).ownBlock ∧ k_ ≠ gb252 ∧ k_ ≠ gb269 ∧ k_ ≠ gb276) (.slice Ao56 x253001_2.length co56) x253001_2) := ⟨(by rw [hw]; exact (by (with_reducible repeat (first | apply Kd.N_alloc | apply Kd.N_drewN | apply Kd.N_drew)); exact Kd.N_mono (Kd.N_far (p := ⟨gb276, 1, none⟩) (Kd.N_far (p := ⟨gb276, 0, none⟩) (Kd.N_mono HO_253001.out (fun k_ hk => (⟨hk, hk.2⟩ : _ ∧ k_ ≠ gb276))) (fun _ hk => hk.2) (.int .u8 3)) (fun _ hk => hk.2) (.slice Ao67 y273.length co67)) (fun _ hk => ⟨hk.1.1.2, ⟨hk.1.1.1.1.1, ⟨hk.1.1.1.1.2, hk.1.2⟩⟩⟩)))⟩; have n90_ : Aside0 (Kd.N (Kd.slice 5 (Kd.int .u8)) 22 w71 w.heap.size (fun k_ => (some k_ ≠ (.slice Ao67 y273.length co67 : Value).ownBlock ∧ k_ ≠ gb252 ∧ k_ ≠ gb269 ∧ k_ ≠ gb276) ∧ some k_ ≠ (.slice Ao64 y270.length co64 : Value).ownBlock) (.slice Ao56 x253001_2.length co56) x253001_2) := ⟨(by rw [hw]; exact (by (with_reducible repeat (first | apply Kd.N_alloc | apply Kd.N_drewN | apply Kd.N_drew)); exact Kd.N_mono (Kd.N_far (p := ⟨gb276, 1, none⟩) (Kd.N_far (p := ⟨gb276, 0, none⟩) (Kd.N_mono HO_253001.out (fun k_ hk => (⟨hk, hk.2⟩ : _ ∧ k_ ≠ gb276))) (fun _ hk => hk.2) (.int .u8 3)) (fun _ hk => hk.2) (.slice Ao67 y273.length co67)) (fun _ hk => ⟨⟨hk.1.1.2, ⟨hk.1.1.1.1.1, ⟨hk.1.1.1.1.2, hk.1.2⟩⟩⟩, hk.1.1.1.2⟩)))⟩; have n91_ : Aside0 (Kd.N (Kd.slice 5 (Kd.int .u8)) 22 w71 w.heap.size (fun k_ => (some k_ = (.slice Ao64 y270.length co64 : Value).ownBlock ∨ k_ = w62.heap.size)) (.slice Ao67 y273.length co67) y273) := ⟨(by rw [hw]; exact (by (with_reducible repeat (first | apply Kd.N_alloc | apply Kd.N_drewN | apply Kd.N_drew)); exact Kd.N_mono (Kd.N_far (p := ⟨gb276, 1, none⟩) (Kd.N_far (p := ⟨gb276, 0, none⟩) (Kd.N_mono HO275.out (fun k_ hk => (⟨hk, hk.2⟩ : _ ∧ k_ ≠ gb276))) (fun _ hk => hk.2) (.int .u8 3)) (fun _ hk => hk.2) (.slice Ao67 y273.length co67)) (fun _ hk => hk.1.1.2)))⟩; have n92_ := Aside0.mk (show Kd.R (Kd.int .u8) 5 w71 w.heap.size (fun _ => True) (.slice Ao64 y270.length co64) y270 from (by rw [hw]; exact (by (with_reducible repeat (first | apply Kd.R_alloc | apply Kd.R_drewN | apply Kd.R_drew)); exact Kd.R_mono (Kd.R_far (p := ⟨gb276, 1, none⟩) (Kd.R_far (p := ⟨gb276, 0, none⟩) EXr.out (fun _ hk => hk.2) (.int .u8 3)) (fun _ hk => hk.2) (.slice Ao67 y273.length co67)) (fun _ _ => trivial)))); have EXs := n90_; have EXn := n91_; clear EXr; have EXr := n92_; have n1_ : Aside0 (Kd.N (Kd.slice 5 (Kd.int .u8)) 22 w71 w.heap.size (fun k_ => some k_ ≠ (.slice Ao56 x253001_2.length co56 : Value).ownBlock ∧ k_ ≠ gb252 ∧ k_ ≠ gb276) (.slice Ao67 y273.length co67) y273) := ⟨(by rw [hw]; exact (by (with_reducible repeat (first | apply Kd.N_alloc | apply Kd.N_drewN | apply Kd.N_drew)); exact Kd.N_mono (Kd.N_far (p := ⟨gb276, 1, none⟩) (Kd.N_far (p := ⟨gb276, 0, none⟩) (Kd.N_mono HO275.out (fun k_ hk => (⟨hk, hk.2⟩ : _ ∧ k_ ≠ gb276))) (fun _ hk => hk.2) (.int .u8 3)) (fun _ hk => hk.2) (.slice Ao67 y273.length co67)) (fun _ hk => ⟨hk.1.1.1.1, ⟨hk.1.1.1.2, hk.1.2⟩⟩)))⟩; have n2_ : Aside0 (w71.heap[gb252]? = some (.cells #[.int .u8 a0, .slice Ao56 x253001_2.length co56] 30 (0, 0))) := ⟨(by rw [hw]; exact (by (with_reducible repeat (first | refine blk_drewN ?_ _ | refine blk_drew ?_ | refine blk_alloc ?_ _)); refine blk_far ?_ NB252_276.out _; (with_reducible repeat (first | refine blk_drewN ?_ _ | refine blk_drew ?_ | refine blk_alloc ?_ _)); refine blk_far ?_ NB252_276.out _; (with_reducible repeat (first | refine blk_drewN ?_ _ | refine blk_drew ?_ | refine blk_alloc ?_ _)); exact BK252.out))⟩; have n3_ : Aside0 (w71.heap[gb276]? = some (.cells #[.int .u8 3, .slice Ao67 y273.length co67] 30 (0, 0))) := ⟨(by rw [hw]; exact (by (with_reducible repeat (first | refine blk_drewN ?_ _ | refine blk_drew ?_ | refine blk_alloc ?_ _)); refine blk_put (cs := #[.int .u8 3, .slice none 0 0]) ?_ 1 _ rfl; (with_reducible repeat (first | refine blk_drewN ?_ _ | refine blk_drew ?_ | refine blk_alloc ?_ _)); refine blk_put (cs := #[.int .u8 0, .slice none 0 0]) ?_ 0 _ rfl; (with_reducible repeat (first | refine blk_drewN ?_ _ | refine blk_drew ?_ | refine blk_alloc ?_ _)); exact BK276.out))⟩; have n4_ : Aside0 (Below w.heap.size w w71) := ⟨(by rw [hw]; exact (by repeat (first | (with_reducible first | exact HB.out | apply below_alloc | apply pw_below_drewN | apply below_drew1 | refine below_set ?_ GE252.out | refine below_set ?_ GE276.out) | exact HB.out)))⟩; clear hw; clear HO_253001; clear HO275; clear BK252; clear BK276; clear HB; have HO_253001 := n0_; have HO275 := n1_; have BK252 := n2_; have BK276 := n3_; have HB := n4_; clear n0_ n1_ n2_ n3_ n4_; have hcz72_0 : w71.cell? ⟨gb276, 0, none⟩ = some (.int .u8 3) := (blk_cell BK276.out 0).trans rfl; have hcz72_1 : w71.cell? ⟨gb276, 1, none⟩ = some (.slice Ao67 y273.length co67) := (blk_cell BK276.out 1).trans rfl; have hfz72_0 := blk_frozen BK276.out 0; have hfz72_1 := blk_frozen BK276.out 1; have p277 : 0 ≤ (0 : Int) := (by omega); have q277 : 0 < (y273.length : Int) := of_decide_eq_true (by first | (with_reducible assumption) | assumption); obtain ⟨ad277, A277_0, c277_0, e277, hx277_0, hl277_0, hi277_0⟩ := at_L1 (Kd.N_reads' HO275.out).2.2 0 p277 q277; cases e277; obtain ⟨ce277, hce277, hMe277, hcc277⟩ := Kd.N_get HO275.out [] 0 p277 (by first | exact q277 | exact of_decide_eq_true (by first | (with_reducible assumption) | assumption) | (have e_ := (Kd.N_reads' HO275.out).1; omega)); obtain ⟨ua277_0, uc277_0, rfl, ul277_0, ge277_0⟩ := Kd.FK_slice_open hMe277; have hv277_0 := hcc277 0 _ rfl; rw [Nat.add_zero, show ((Kd.slice 5 (Kd.int .u8))).sz = 1 from rfl, Nat.mul_one] at hv277_0; replace hv277_0 := Option.some.inj (hv277_0.symm.trans hx277_0); injection hv277_0 with hva_ hvn_ hvc_; rw [hva_] at ge277_0; rw [hvc_] at ul277_0; have HL277_0 := Aside0.mk (show Kd.V (Kd.int .u8) 5 _ w.heap.size _ _ (rd_L1 y273 0) from Kd.V_mk ul277_0 ge277_0); clear hva_ hvn_ hvc_ ge277_0 ul277_0; clear hcc277 hce277; have qi277 : (0 < y273.length) = True := eq_true (by omega); (try rw [show ((0 : Int)).toNat = 0 from rfl] at hx277_0); (try rw [Addr.add_zero'] at hx277_0); have HR277_0 := Aside0.mk hi277_0; have HC277_0 := Aside0.mk hl277_0; clear hi277_0 hl277_0; replace p277 := eq_true p277; replace q277 := eq_true q277; have p278 : 0 ≤ (0 : Int) := (by omega); have q278 : 0 < ((rd_L1 y273 0).length : Int) := of_decide_eq_true (by first | (with_reducible assumption) | assumption); obtain ⟨ad278, e278, hx278_0⟩ := Kd.at_int (by repeat (first | (with_reducible exact HR277_0.out) | (with_reducible refine Kd.C_alloc ?_ _) | (with_reducible refine Kd.C_drewN ?_ _) | (with_reducible refine Kd.C_drew ?_) | exact HR277_0.out)) 0 p278 q278; cases e278; have qi278 : (0 < (rd_L1 y273 0).length) = True := eq_true (by omega); (try rw [show ((0 : Int)).toNat = 0 from rfl] at hx278_0); (try rw [Addr.add_zero'] at hx278_0); replace p278 := eq_true p278; replace q278 := eq_true q278) | ((with_reducible refine gate_store (t := 5) (p := 98) rfl ?_); have y270_pos_ : 0 < y270.length := (by have h_ : (0 : Int) < ((rd_L1 y273 0).length : Int) := of_decide_eq_true (by first | (with_reducible assumption) | assumption); rw [Ny273.out] at h_; have h2_ : (0 : Int) < (y270.length : Int) := h_; omega); have P1_ := N_poke (x := y270) (n0 := [y270].length) (by have h_ := HO275.out; rw [Ny273.out] at h_; exact h_) (show w71.cell? ad277 = some _ from hx277_0) 0 (by omega) (by have := y270_pos_; omega) 1; have P2_ := N_poke (x := y270) (n0 := [y270].length) (by have h_ := EXn.out; rw [Ny273.out] at h_; exact h_) (show w71.cell? ad277 = some _ from hx277_0) 0 (by omega) (by have := y270_pos_; omega) 1; have EB2 : (Value.slice (some ad277) [y270].length co67).ownBlock = some w62.heap.size := (by have h_ := EB.out; rw [Ny273.out] at h_; exact h_); have hvm_ : some ad278.block = (.slice Ao64 y270.length co64 : Value).ownBlock := (by rcases P2_.1 with h_ | h_; exact h_; exact absurd (by rw [h_, EB2]) P2_.2.1); obtain ⟨ct_, ht_⟩ := Kd.R_typed EXr.out _ hvm_.symm; have hfz278 : w71.frozen? ad278 = false := typed_free (a := ad278) ht_; have hge_ : w.heap.size ≤ ad278.block := Kd.R_base EXr.out _ hvm_.symm; refine store_event (t := 5) (p := 98) (v := ?vo_w74) (w1 := (w71.setCell ad278 (.int .u8 1))) ?hg ?ho ?hn ?hr ?_; (case ho => rfl); (case hg => rfl); (case hn => rfl); (case hr => first | (go_simp; done) | (go_simp; rfl)); intro w74 hw; have hp_ : Kd.N (Kd.slice 5 (Kd.int .u8)) 22 w74 w.heap.size (fun k_ => some k_ ≠ (.slice Ao56 x253001_2.length co56 : Value).ownBlock ∧ k_ ≠ gb252 ∧ k_ ≠ gb276) (.slice (some ad277) y273.length co67) y281 := (by rw [hw, Ny281.out, Ny279.out, Ny273.out]; exact P1_.2.2); have n0_ := Aside0.mk (show Kd.N (Kd.slice 5 (Kd.int .u8)) 22 w74 w.heap.size (fun k_ => some k_ ≠ (.slice (some ad277) y273.length co67 : Value).ownBlock ∧ k_ ≠ gb252 ∧ k_ ≠ gb269 ∧ k_ ≠ gb276) (.slice Ao56 x253001_2.length co56) x253001_2 from (by rw [hw]; exact Kd.N_mono (Kd.N_far (p := ad278) EXs.out (fun k_ hk e_ => hk.2 (by rw [e_]; exact hvm_)) _) (fun k_ hk => hk.1))); have n1_ := Aside0.mk (show w74.heap[gb252]? = some (.cells #[.int .u8 a0, .slice Ao56 x253001_2.length co56] 30 (0, 0)) from (by rw [hw]; exact blk_far BK252.out (p := ad278) (fun e_ => P1_.1.2.1 e_.symm) _)); have n2_ := Aside0.mk (hp_); have n3_ := Aside0.mk (show w74.heap[gb276]? = some (.cells #[.int .u8 3, .slice (some ad277) y273.length co67] 30 (0, 0)) from (by rw [hw]; exact blk_far BK276.out (p := ad278) (fun e_ => P1_.1.2.2 e_.symm) _)); have n4_ := Aside0.mk (show Below w.heap.size w w74 from (by rw [hw]; exact HB.out.setCell hge_ _)); clear HO_253001; clear BK252; clear HO275; clear BK276; clear HB; clear HL277_0; have HO_253001 := n0_; have BK252 := n1_; have HO275 := n2_; have BK276 := n3_; have HB := n4_; clear n0_ n1_ n2_ n3_ n4_; clear hw hp_ P1_ P2_ EB2 hvm_ ht_ hfz278 hge_ y270_pos_; have hcz75_0 : w74.cell? ⟨gb276, 0, none⟩ = some (.int .u8 3) := (blk_cell BK276.out 0).trans rfl; have hcz75_1 : w74.cell? ⟨gb276, 1, none⟩ = some (.slice (some ad277) y273.length co67) := (blk_cell BK276.out 1).trans rfl; have hfz75_0 := blk_frozen BK276.out 0; have hfz75_1 := blk_frozen BK276.out 1) | ((with_reducible refine gate_callee (f := 26) rfl ?_); refine goesL_ (some 101) rfl rfl Try.func26 (by kernel_rfl) rfl #[.agg #[.int .u8 3, .slice (some ad277) y281.length co67], .int .u8 1] rfl (by (try simp only [List.map_toArray, List.map_cons, List.map_nil]); first | done | (rw [show y281.length = y273.length from (Kd.N_reads' HO275.out).1.symm] <;> rfl) | rfl | (simp only [List.length_drop, List.length_take]; rfl)) ?_; (with_reducible refine (disk_Set_To.calls k2 3 _ _ y281 1 t282 t283 t286 _ ?side1 ?side2 A44.out).mono ?_); (case side1 => repeat (first | exact (Kd.N_reads' HO275.out).2.2 | (with_reducible refine Kd.C_alloc ?_ _) | (with_reducible refine Kd.C_drewN ?_ _) | (with_reducible refine Kd.C_drew ?_))); (case side2 => rw [show y281.length = y273.length from (Kd.N_reads' HO275.out).1.symm]; exact (Kd.N_reads' HO275.out).2.1); rintro e w76 ⟨v284, rfl, ho0, hb⟩; refine ⟨_, rfl, ?_⟩; have n0_ := Aside0.mk (Kd.N_below (by (with_reducible repeat (first | apply Kd.N_alloc | apply Kd.N_drewN | apply Kd.N_drew)); exact HO_253001.out) hb); have n1_ := Aside0.mk (Kd.N_below (by (with_reducible repeat (first | apply Kd.N_alloc | apply Kd.N_drewN | apply Kd.N_drew)); exact HO275.out) hb); have n2_ := Aside0.mk (Kd.V_lower (Kd.V_mono (ok' := fun k_ => some k_ ≠ (.slice Ao56 x253001_2.length co56 : Value).ownBlock ∧ some k_ ≠ (.slice (some ad277) y273.length co67 : Value).ownBlock ∧ k_ ≠ gb252) ho0 (fun k_ hk_ => ⟨(Kd.fresh' (Kd.N_lt (by (with_reducible repeat (first | apply Kd.N_alloc | apply Kd.N_drewN | apply Kd.N_drew)); exact HO_253001.out)) k_ hk_), (Kd.fresh' (Kd.N_lt (by (with_reducible repeat (first | apply Kd.N_alloc | apply Kd.N_drewN | apply Kd.N_drew)); exact HO275.out)) k_ hk_), (Kd.freshB (g := gb252) (o := .cells #[.int .u8 a0, .slice Ao56 x253001_2.length co56] 30 (0, 0)) (by (with_reducible repeat (first | refine blk_drewN ?_ _ | refine blk_drew ?_ | refine blk_alloc ?_ _)); exact BK252.out) k_ hk_)⟩)) (below_size (by repeat (first | (with_reducible first | exact HB.out | apply below_alloc | apply pw_below_drewN | apply below_drew1 | refine below_set ?_ GE252.out) | exact HB.out)))); have n3_ := Aside0.mk (blk_below (g := gb252) (o := .cells #[.int .u8 a0, .slice Ao56 x253001_2.length co56] 30 (0, 0)) (by (with_reducible repeat (first | refine blk_drewN ?_ _ | refine blk_drew ?_ | refine blk_alloc ?_ _)); exact BK252.out) hb); have n4_ := Aside0.mk (below_step (by repeat (first | (with_reducible first | exact HB.out | apply below_alloc | apply pw_below_drewN | apply below_drew1 | refine below_set ?_ GE252.out) | exact HB.out)) hb); clear HO_253001; clear HO275; clear BK252; clear HB; have HO_253001 := n0_; have HO275 := n1_; have HO285 := n2_; have BK252 := n3_; have HB := n4_; clear n0_ n1_ n2_ n3_ n4_; (try clear hb); (try clear hb2); (try clear hk); (try clear hi); (try clear ho0)) | ((with_reducible refine gate_dst (N := 15) rfl ?_); (try (refine gate_guard (by rfl) ?_; dsimp only)); refine box_event ?hg (N := 15) ?hd (cs := #[.int .u8 0, .slice none 0 0]) (t := 30) ?hr ?_; (case hd => rfl); (case hg => rfl); (case hr => first | (go_simp; done) | (go_simp; rfl)); intro gb287 hg w77 hbox hb; have n0_ := Aside0.mk (Kd.N_below (Kd.N_elderB (by (with_reducible repeat (first | apply Kd.N_alloc | apply Kd.N_drewN | apply Kd.N_drew)); exact HO_253001.out) gb287 (Nat.le_of_eq hg.symm)) hb); have n1_ := Aside0.mk (Kd.V_below (Kd.V_elderB (by (with_reducible repeat (first | apply Kd.V_alloc | apply Kd.V_drewN | apply Kd.V_drew)); exact HO285.out) gb287 (Nat.le_of_eq hg.symm)) hb); have n2_ := Aside0.mk (blk_below (g := gb252) (o := .cells #[.int .u8 a0, .slice Ao56 x253001_2.length co56] 30 (0, 0)) (by (with_reducible repeat (first | refine blk_drewN ?_ _ | refine blk_drew ?_ | refine blk_alloc ?_ _)); exact BK252.out) hb); have n3_ := Aside0.mk (below_step (by repeat (first | (with_reducible first | exact HB.out | apply below_alloc | apply pw_below_drewN | apply below_drew1 | refine below_set ?_ GE252.out) | exact HB.out)) hb); have n4_ := Aside0.mk (hbox); have n5_ := Aside0.mk ((by rw [hg]; exact (below_size (by repeat (first | (with_reducible first | exact HB.out | apply below_alloc | apply pw_below_drewN | apply below_drew1 | refine below_set ?_ GE252.out) | exact HB.out))) : w.heap.size ≤ gb287)); have n6_ := Aside0.mk ((by rw [hg]; exact (below_size (by repeat (first | (with_reducible first | exact HB.out | apply below_alloc | apply pw_below_drewN | apply below_drew1 | refine below_set ?_ GE252.out) | exact HB.out))) : w.heap.size ≤ gb287)); have n7_ := Aside0.mk ((by rw [hg]; exact Nat.ne_of_lt (blk_lt (g := gb252) (o := .cells #[.int .u8 a0, .slice Ao56 x253001_2.length co56] 30 (0, 0)) (by (with_reducible repeat (first | refine blk_drewN ?_ _ | refine blk_drew ?_ | refine blk_alloc ?_ _)); exact BK252.out)) : gb252 ≠ gb287)); have n8_ := Aside0.mk ((by rw [hg]; exact Nat.ne_of_gt (blk_lt (g := gb252) (o := .cells #[.int .u8 a0, .slice Ao56 x253001_2.length co56] 30 (0, 0)) (by (with_reducible repeat (first | refine blk_drewN ?_ _ | refine blk_drew ?_ | refine blk_alloc ?_ _)); exact BK252.out)) : gb287 ≠ gb252)); clear HO_253001; clear HO285; clear BK252; clear HB; have HO_253001 := n0_; have HO285 := n1_; have BK252 := n2_; have HB := n3_; have BK287 := n4_; have GW287 := n5_; have GE287 := n6_; have NB252_287 := n7_; have NB287_252 := n8_; clear n0_ n1_ n2_ n3_ n4_ n5_ n6_ n7_ n8_; clear hb hbox hg; have hnb78 := NB287_252.out; have hnc78 := NB252_287.out; have hcz79_0 : w77.cell? ⟨gb287, 0, none⟩ = some (.int .u8 0) := (blk_cell BK287.out 0).trans rfl; have hcz79_1 : w77.cell? ⟨gb287, 1, none⟩ = some (.slice none 0 0) := (blk_cell BK287.out 1).trans rfl; have hfz79_0 := blk_frozen BK287.out 0; have hfz79_1 := blk_frozen BK287.out 1; obtain ⟨Ao80, co80, eo80⟩ := Kd.V_slice HO285.out; subst eo80) | ((with_reducible refine gate_dst (N := 104) rfl ?_); (try (refine gate_guard (by rfl) ?_; dsimp only)); refine Kd.R_make (Kd.int .u8) _ 5 rfl (N := 104) rfl 22 _ _ rfl 65425 rfl rfl Try.underlying22 (.int .u8 0) 1 info5 rfl (by decide) (by omega) 0 (ok := fun _ => True) (okp := fun _ => True) rfl (fun _ hk => hk) trivial (by omega) (by omega) (Below.refl _ _) (Nat.le_refl _) ?_; intro v289 w81 ho82 hb hg_ hnew_; clear hg_ hnew_; (first | rw [← Ny288.out] at ho82 | (simp only [Int.reduceToNat] at ho82; rw [← Ny288.out] at ho82)); have n0_ := Aside0.mk (Kd.N_elder' (by (with_reducible repeat (first | apply Kd.N_alloc | apply Kd.N_drewN | apply Kd.N_drew)); exact (Kd.N_mono (Kd.N_far (p := ⟨gb287, 1, none⟩) (Kd.N_far (p := ⟨gb287, 0, none⟩) (Kd.N_mono HO_253001.out (fun k_ hk => (⟨hk, hk.2⟩ : _ ∧ k_ ≠ gb287))) (fun _ hk => hk.2) (.int .u8 t282)) (fun _ hk => hk.2) (.slice Ao80 t283.length co80)) (fun _ h_ => h_.1))) (Kd.R_base ho82) hb); have n1_ := Aside0.mk (Kd.V_elder' (by (with_reducible repeat (first | apply Kd.V_alloc | apply Kd.V_drewN | apply Kd.V_drew)); exact (Kd.V_mono (Kd.V_far (p := ⟨gb287, 1, none⟩) (Kd.V_far (p := ⟨gb287, 0, none⟩) (Kd.V_mono HO285.out (fun k_ hk => (⟨hk, hk.2⟩ : _ ∧ k_ ≠ gb287))) (fun _ hk => hk.2) (.int .u8 t282)) (fun _ hk => hk.2) (.slice Ao80 t283.length co80)) (fun _ h_ => h_.1))) (Kd.R_base ho82) hb); have n2_ := Aside0.mk (Kd.R_lower ho82 (below_size (by repeat (first | (with_reducible first | exact HB.out | apply below_alloc | apply pw_below_drewN | apply below_drew1 | refine below_set ?_ GE252.out | refine below_set ?_ GE287.out) | exact HB.out)))); have n3_ := Aside0.mk (blk_below (g := gb252) (o := .cells #[.int .u8 a0, .slice Ao56 x253001_2.length co56] 30 (0, 0)) (by (with_reducible repeat (first | refine blk_drewN ?_ _ | refine blk_drew ?_ | refine blk_alloc ?_ _)); refine blk_far ?_ NB252_287.out _; (with_reducible repeat (first | refine blk_drewN ?_ _ | refine blk_drew ?_ | refine blk_alloc ?_ _)); refine blk_far ?_ NB252_287.out _; (with_reducible repeat (first | refine blk_drewN ?_ _ | refine blk_drew ?_ | refine blk_alloc ?_ _)); exact BK252.out) hb); have n4_ := Aside0.mk (blk_below (g := gb287) (o := .cells #[.int .u8 t282, .slice Ao80 t283.length co80] 30 (0, 0)) (by (with_reducible repeat (first | refine blk_drewN ?_ _ | refine blk_drew ?_ | refine blk_alloc ?_ _)); refine blk_put (cs := #[.int .u8 t282, .slice none 0 0]) ?_ 1 _ rfl; (with_reducible repeat (first | refine blk_drewN ?_ _ | refine blk_drew ?_ | refine blk_alloc ?_ _)); refine blk_put (cs := #[.int .u8 0, .slice none 0 0]) ?_ 0 _ rfl; (with_reducible repeat (first | refine blk_drewN ?_ _ | refine blk_drew ?_ | refine blk_alloc ?_ _)); exact BK287.out) hb); have n5_ := Aside0.mk (below_step (by repeat (first | (with_reducible first | exact HB.out | apply below_alloc | apply pw_below_drewN | apply below_drew1 | refine below_set ?_ GE252.out | refine below_set ?_ GE287.out) | exact HB.out)) hb); clear HO_253001; clear HO285; clear BK252; clear BK287; clear HB; have HO_253001 := n0_; have HO285 := n1_; have HO290 := n2_; have BK252 := n3_; have BK287 := n4_; have HB := n5_; clear n0_ n1_ n2_ n3_ n4_ n5_; clear hb ho82; obtain ⟨Ao83, co83, eo83⟩ := Kd.R_slice HO290.out; subst eo83) | ((with_reducible refine gate_callee (f := 28) rfl ?_); refine goesL_ (some 105) rfl rfl Try.func28 (by kernel_rfl) rfl #[.int .u8 0, .int .u8 0, .string (⟨#[]⟩ : ByteArray), .int .u16 0, .int .u8 0, .slice Ao83 y288.length co83] rfl (by (try simp only [List.map_toArray, List.map_cons, List.map_nil]); first | done | rfl | (simp only [List.length_drop, List.length_take]; rfl)) ?_; (with_reducible refine (block_File.calls 0 0 (⟨#[]⟩ : ByteArray) 0 0 _ _ y288 t291 _ ?side1 ?side2 A46.out).mono ?_); (case side1 => repeat (first | exact (Kd.R_reads' HO290.out).2.2 | (with_reducible refine Kd.C_alloc ?_ _) | (with_reducible refine Kd.C_drewN ?_ _) | (with_reducible refine Kd.C_drew ?_))); (case side2 => exact (Kd.R_reads' HO290.out).2.1); rintro e w84 ⟨v292, rfl, ho0, hb⟩; refine ⟨_, rfl, ?_⟩; have n0_ := Aside0.mk (Kd.N_below (by (with_reducible repeat (first | apply Kd.N_alloc | apply Kd.N_drewN | apply Kd.N_drew)); exact HO_253001.out) hb); have n1_ := Aside0.mk (Kd.R_below (by (with_reducible repeat (first | apply Kd.R_alloc | apply Kd.R_drewN | apply Kd.R_drew)); exact HO290.out) hb); have n2_ := Aside0.mk (Kd.V_lower (Kd.V_mono (ok' := fun k_ => some k_ ≠ (.slice Ao56 x253001_2.length co56 : Value).ownBlock ∧ some k_ ≠ (.slice Ao83 y288.length co83 : Value).ownBlock ∧ k_ ≠ gb252) ho0 (fun k_ hk_ => ⟨(Kd.fresh' (Kd.N_lt (by (with_reducible repeat (first | apply Kd.N_alloc | apply Kd.N_drewN | apply Kd.N_drew)); exact HO_253001.out)) k_ hk_), (Kd.fresh' (Kd.R_lt (by (with_reducible repeat (first | apply Kd.R_alloc | apply Kd.R_drewN | apply Kd.R_drew)); exact HO290.out)) k_ hk_), (Kd.freshB (g := gb252) (o := .cells #[.int .u8 a0, .slice Ao56 x253001_2.length co56] 30 (0, 0)) (by (with_reducible repeat (first | refine blk_drewN ?_ _ | refine blk_drew ?_ | refine blk_alloc ?_ _)); exact BK252.out) k_ hk_)⟩)) (below_size (by repeat (first | (with_reducible first | exact HB.out | apply below_alloc | apply pw_below_drewN | apply below_drew1 | refine below_set ?_ GE252.out) | exact HB.out)))); have n3_ := Aside0.mk (blk_below (g := gb252) (o := .cells #[.int .u8 a0, .slice Ao56 x253001_2.length co56] 30 (0, 0)) (by (with_reducible repeat (first | refine blk_drewN ?_ _ | refine blk_drew ?_ | refine blk_alloc ?_ _)); exact BK252.out) hb); have n4_ := Aside0.mk (below_step (by repeat (first | (with_reducible first | exact HB.out | apply below_alloc | apply pw_below_drewN | apply below_drew1 | refine below_set ?_ GE252.out) | exact HB.out)) hb); clear HO_253001; clear HO290; clear BK252; clear HB; have HO_253001 := n0_; have HO290 := n1_; have HO293 := n2_; have BK252 := n3_; have HB := n4_; clear n0_ n1_ n2_ n3_ n4_; (try clear hb); (try clear hb2); (try clear hk); (try clear hi); (try clear ho0); obtain ⟨Ao85, co85, eo85⟩ := Kd.V_slice HO293.out; subst eo85) | ((with_reducible refine gate_dst (N := 106) rfl ?_); (try (refine gate_guard (by rfl) ?_; dsimp only)); refine Kd.N_lit (Kd.slice 73 k73) _ 45 ?hg (N' := 106) ?hd (xs := ([t291] : List (List (S73)))) (inner := [.slice Ao85 t291.length co85]) (ok := (fun k_ => some k_ ≠ (.slice Ao56 x253001_2.length co56 : Value).ownBlock ∧ k_ ≠ gb252)) (okp := (fun k_ => some k_ ≠ (.slice Ao56 x253001_2.length co56 : Value).ownBlock ∧ k_ ≠ gb252)) ?hr ?hp (fun _ hk => hk) ((show ∀ k_, w84.heap.size ≤ k_ → (fun k_ => some k_ ≠ (.slice Ao56 x253001_2.length co56 : Value).ownBlock ∧ k_ ≠ gb252) k_ from fun k_ hk => ⟨Kd.fresh' (Kd.N_lt (by (with_reducible repeat (first | apply Kd.N_alloc | apply Kd.N_drewN | apply Kd.N_drew)); exact HO_253001.out)) k_ hk, Kd.freshB (g := gb252) (o := .cells #[.int .u8 a0, .slice Ao56 x253001_2.length co56] 30 (0, 0)) (by (with_reducible repeat (first | refine blk_drewN ?_ _ | refine blk_drew ?_ | refine blk_alloc ?_ _)); exact BK252.out) k_ hk⟩) _ (Nat.le_refl _)) (Below.refl _ _) (Nat.le_refl _) (by simp) ?_; (case hd => rfl); (case hg => rfl); (case hr => first | (go_simp; done) | (go_simp; rfl)); (case hp => exact (Reps.one (show Kd.FK (Kd.slice 73 k73) _ _ t291 [.slice Ao85 t291.length co85] from (Kd.FK_slice_mk (Kd.V_reads' (e := 5) (base := w.heap.size) (Kd.V_mono (e := 5) (base := w.heap.size) (ok' := (fun k_ => some k_ ≠ (.slice Ao56 x253001_2.length co56 : Value).ownBlock ∧ k_ ≠ gb252)) (HO293.out) (fun k_ hk => ⟨hk.1, hk.2.2⟩))).2.1 (Kd.V_F (e := 5) (base := w.heap.size) (Kd.V_mono (e := 5) (base := w.heap.size) (ok' := (fun k_ => some k_ ≠ (.slice Ao56 x253001_2.length co56 : Value).ownBlock ∧ k_ ≠ gb252)) (HO293.out) (fun k_ hk => ⟨hk.1, hk.2.2⟩))))) (Reps.none _ _))); intro v295 w86 ho87 hb hg_ hnew_; clear hg_ hnew_; (first | rw [← Ny294.out] at ho87 | (simp only [Int.reduceToNat] at ho87; rw [← Ny294.out] at ho87)); have n0_ := Aside0.mk (Kd.N_elder' (by (with_reducible repeat (first | apply Kd.N_alloc | apply Kd.N_drewN | apply Kd.N_drew)); exact HO_253001.out) (Kd.N_base ho87) hb); have n1_ := Aside0.mk (Kd.V_elder' (by (with_reducible repeat (first | apply Kd.V_alloc | apply Kd.V_drewN | apply Kd.V_drew)); exact HO293.out) (Kd.N_base ho87) hb); have n2_ := Aside0.mk (Kd.N_lower ho87 (below_size (by repeat (first | (with_reducible first | exact HB.out | apply below_alloc | apply pw_below_drewN | apply below_drew1 | refine below_set ?_ GE252.out) | exact HB.out)))); have n3_ := Aside0.mk (blk_below (g := gb252) (o := .cells #[.int .u8 a0, .slice Ao56 x253001_2.length co56] 30 (0, 0)) (by (with_reducible repeat (first | refine blk_drewN ?_ _ | refine blk_drew ?_ | refine blk_alloc ?_ _)); exact BK252.out) hb); have n4_ := Aside0.mk (below_step (by repeat (first | (with_reducible first | exact HB.out | apply below_alloc | apply pw_below_drewN | apply below_drew1 | refine below_set ?_ GE252.out) | exact HB.out)) hb); clear HO_253001; clear HO293; clear BK252; clear HB; have HO_253001 := n0_; have HO293 := n1_; have HO296 := n2_; have BK252 := n3_; have HB := n4_; clear n0_ n1_ n2_ n3_ n4_; clear hb ho87; obtain ⟨Ao88, co88, eo88⟩ := Kd.N_slice HO296.out; subst eo88) | ((with_reducible refine gate_callee (f := 27) rfl ?_); refine goesL_ (some 107) rfl rfl Try.func27 (by kernel_rfl) rfl #[.string (⟨#[]⟩ : ByteArray), .int .u8 0, .slice Ao88 y294.length co88] rfl (by (try simp only [List.map_toArray, List.map_cons, List.map_nil]); first | done | rfl | (simp only [List.length_drop, List.length_take]; rfl)) ?_; (with_reducible refine (block_Disk.calls (⟨#[]⟩ : ByteArray) 0 (fun k_ => (some k_ ≠ (.slice Ao56 x253001_2.length co56 : Value).ownBlock ∧ k_ ≠ gb252)) _ _ y294 t297 _ ?side1 A47.out).mono ?_); (case side1 => exact Kd.N_V (HO296.out)); rintro e w89 ⟨v298, rfl, ho0, hb⟩; refine ⟨_, rfl, ?_⟩; have n0_ := Aside0.mk (Kd.N_elder' (by (with_reducible repeat (first | apply Kd.N_alloc | apply Kd.N_drewN | apply Kd.N_drew)); exact HO_253001.out) (Kd.N_base ho0) hb); have n1_ := Aside0.mk (Kd.N_elder' (by (with_reducible repeat (first | apply Kd.N_alloc | apply Kd.N_drewN | apply Kd.N_drew)); exact HO296.out) (Kd.N_base ho0) hb); have n2_ := Aside0.mk (Kd.N_lower (Kd.N_mono (ok' := fun k_ => some k_ ≠ (.slice Ao56 x253001_2.length co56 : Value).ownBlock ∧ k_ ≠ gb252) ho0 (fun k_ hk_ => ⟨Or.elim hk_ (fun hs_ => hs_.1) (fun hn_ => (Kd.fresh' (Kd.N_lt (by (with_reducible repeat (first | apply Kd.N_alloc | apply Kd.N_drewN | apply Kd.N_drew)); exact HO_253001.out)) k_ hn_)), Or.elim hk_ (fun hs_ => hs_.2) (fun hn_ => (Kd.freshB (g := gb252) (o := .cells #[.int .u8 a0, .slice Ao56 x253001_2.length co56] 30 (0, 0)) (by (with_reducible repeat (first | refine blk_drewN ?_ _ | refine blk_drew ?_ | refine blk_alloc ?_ _)); exact BK252.out) k_ hn_))⟩)) (below_size (by repeat (first | (with_reducible first | exact HB.out | apply below_alloc | apply pw_below_drewN | apply below_drew1 | refine below_set ?_ GE252.out) | exact HB.out)))); have n3_ := Aside0.mk (blk_below (g := gb252) (o := .cells #[.int .u8 a0, .slice Ao56 x253001_2.length co56] 30 (0, 0)) (by (with_reducible repeat (first | refine blk_drewN ?_ _ | refine blk_drew ?_ | refine blk_alloc ?_ _)); exact BK252.out) hb); have n4_ := Aside0.mk (below_step (by repeat (first | (with_reducible first | exact HB.out | apply below_alloc | apply pw_below_drewN | apply below_drew1 | refine below_set ?_ GE252.out) | exact HB.out)) hb); clear HO_253001; clear HO296; clear BK252; clear HB; have HO_253001 := n0_; have HO296 := n1_; have HO299 := n2_; have BK252 := n3_; have HB := n4_; clear n0_ n1_ n2_ n3_ n4_; (try clear hb); (try clear hb2); (try clear hk); (try clear hi); (try clear ho0); obtain ⟨Ao90, co90, eo90⟩ := Kd.N_slice HO299.out; subst eo90) | ((with_reducible refine gate_callee (f := 29) rfl ?_); refine goesL_ (some 110) rfl rfl Try.func29 (by kernel_rfl) rfl #[.slice Ao90 t297.length co90, .int .i64 65500] rfl (by (try simp only [List.map_toArray, List.map_cons, List.map_nil]); first | done | rfl | (simp only [List.length_drop, List.length_take]; rfl)) ?_; (with_reducible refine (block_Side.calls k2 _ _ t297 65500 t300 t303 _ ?side1 ?side2 A48.out).mono ?_); (case side1 => repeat (first | exact (Kd.N_reads' HO299.out).2.2 | (with_reducible refine Kd.C_alloc ?_ _) | (with_reducible refine Kd.C_drewN ?_ _) | (with_reducible refine Kd.C_drew ?_))); (case side2 => exact (Kd.N_reads' HO299.out).2.1); rintro e w91 ⟨v301, rfl, ho0, hb⟩; refine ⟨_, rfl, ?_⟩; have n0_ := Aside0.mk (Kd.N_below (by (with_reducible repeat (first | apply Kd.N_alloc | apply Kd.N_drewN | apply Kd.N_drew)); exact HO_253001.out) hb); have n1_ := Aside0.mk (Kd.N_below (by (with_reducible repeat (first | apply Kd.N_alloc | apply Kd.N_drewN | apply Kd.N_drew)); exact HO299.out) hb); have n2_ := Aside0.mk (Kd.V_lower (Kd.V_mono (ok' := fun k_ => some k_ ≠ (.slice Ao56 x253001_2.length co56 : Value).ownBlock ∧ some k_ ≠ (.slice Ao90 t297.length co90 : Value).ownBlock ∧ k_ ≠ gb252) ho0 (fun k_ hk_ => ⟨(Kd.fresh' (Kd.N_lt (by (with_reducible repeat (first | apply Kd.N_alloc | apply Kd.N_drewN | apply Kd.N_drew)); exact HO_253001.out)) k_ hk_), (Kd.fresh' (Kd.N_lt (by (with_reducible repeat (first | apply Kd.N_alloc | apply Kd.N_drewN | apply Kd.N_drew)); exact HO299.out)) k_ hk_), (Kd.freshB (g := gb252) (o := .cells #[.int .u8 a0, .slice Ao56 x253001_2.length co56] 30 (0, 0)) (by (with_reducible repeat (first | refine blk_drewN ?_ _ | refine blk_drew ?_ | refine blk_alloc ?_ _)); exact BK252.out) k_ hk_)⟩)) (below_size (by repeat (first | (with_reducible first | exact HB.out | apply below_alloc | apply pw_below_drewN | apply below_drew1 | refine below_set ?_ GE252.out) | exact HB.out)))); have n3_ := Aside0.mk (blk_below (g := gb252) (o := .cells #[.int .u8 a0, .slice Ao56 x253001_2.length co56] 30 (0, 0)) (by (with_reducible repeat (first | refine blk_drewN ?_ _ | refine blk_drew ?_ | refine blk_alloc ?_ _)); exact BK252.out) hb); have n4_ := Aside0.mk (below_step (by repeat (first | (with_reducible first | exact HB.out | apply below_alloc | apply pw_below_drewN | apply below_drew1 | refine below_set ?_ GE252.out) | exact HB.out)) hb); clear HO_253001; clear HO299; clear BK252; clear HB; have HO_253001 := n0_; have HO299 := n1_; have HO302 := n2_; have BK252 := n3_; have HB := n4_; clear n0_ n1_ n2_ n3_ n4_; (try clear hb); (try clear hb2); (try clear hk); (try clear hi); (try clear ho0)) | ((with_reducible refine gate_dst (N := 114) rfl ?_); (try (refine gate_guard (by rfl) ?_; dsimp only)); refine Kd.R_make (Kd.int .u8) _ 5 rfl (N := 114) rfl 22 _ _ rfl 65450 rfl rfl Try.underlying22 (.int .u8 0) 1 info5 rfl (by decide) (by omega) 0 (ok := fun _ => True) (okp := fun _ => True) rfl (fun _ hk => hk) trivial (by omega) (by omega) (Below.refl _ _) (Nat.le_refl _) ?_; intro v305 w92 ho93 hb hg_ hnew_; clear hg_ hnew_; (first | rw [← Ny304.out] at ho93 | (simp only [Int.reduceToNat] at ho93; rw [← Ny304.out] at ho93)); have n0_ := Aside0.mk (Kd.N_elder' (by (with_reducible repeat (first | apply Kd.N_alloc | apply Kd.N_drewN | apply Kd.N_drew)); exact HO_253001.out) (Kd.R_base ho93) hb); have n1_ := Aside0.mk (Kd.V_elder' (by (with_reducible repeat (first | apply Kd.V_alloc | apply Kd.V_drewN | apply Kd.V_drew)); exact HO302.out) (Kd.R_base ho93) hb); have n2_ := Aside0.mk (Kd.R_lower ho93 (below_size (by repeat (first | (with_reducible first | exact HB.out | apply below_alloc | apply pw_below_drewN | apply below_drew1 | refine below_set ?_ GE252.out) | exact HB.out)))); have n3_ := Aside0.mk (blk_below (g := gb252) (o := .cells #[.int .u8 a0, .slice Ao56 x253001_2.length co56] 30 (0, 0)) (by (with_reducible repeat (first | refine blk_drewN ?_ _ | refine blk_drew ?_ | refine blk_alloc ?_ _)); exact BK252.out) hb); have n4_ := Aside0.mk (below_step (by repeat (first | (with_reducible first | exact HB.out | apply below_alloc | apply pw_below_drewN | apply below_drew1 | refine below_set ?_ GE252.out) | exact HB.out)) hb); clear HO_253001; clear HO302; clear BK252; clear HB; have HO_253001 := n0_; have HO302 := n1_; have HO306 := n2_; have BK252 := n3_; have HB := n4_; clear n0_ n1_ n2_ n3_ n4_; clear hb ho93; obtain ⟨Ao94, co94, eo94⟩ := Kd.R_slice HO306.out; subst eo94) | ((with_reducible refine gate_callee (f := 28) rfl ?_); refine goesL_ (some 115) rfl rfl Try.func28 (by kernel_rfl) rfl #[.int .u8 0, .int .u8 0, .string (⟨#[]⟩ : ByteArray), .int .u16 0, .int .u8 0, .slice Ao94 y304.length co94] rfl (by (try simp only [List.map_toArray, List.map_cons, List.map_nil]); first | done | rfl | (simp only [List.length_drop, List.length_take]; rfl)) ?_; (with_reducible refine (block_File.calls 0 0 (⟨#[]⟩ : ByteArray) 0 0 _ _ y304 t307 _ ?side1 ?side2 A50.out).mono ?_); (case side1 => repeat (first | exact (Kd.R_reads' HO306.out).2.2 | (with_reducible refine Kd.C_alloc ?_ _) | (with_reducible refine Kd.C_drewN ?_ _) | (with_reducible refine Kd.C_drew ?_))); (case side2 => exact (Kd.R_reads' HO306.out).2.1); rintro e w95 ⟨v308, rfl, ho0, hb⟩; refine ⟨_, rfl, ?_⟩; have n0_ := Aside0.mk (Kd.N_below (by (with_reducible repeat (first | apply Kd.N_alloc | apply Kd.N_drewN | apply Kd.N_drew)); exact HO_253001.out) hb); have n1_ := Aside0.mk (Kd.V_below (by (with_reducible repeat (first | apply Kd.V_alloc | apply Kd.V_drewN | apply Kd.V_drew)); exact HO302.out) hb); have n2_ := Aside0.mk (Kd.R_below (by (with_reducible repeat (first | apply Kd.R_alloc | apply Kd.R_drewN | apply Kd.R_drew)); exact HO306.out) hb); have n3_ := Aside0.mk (Kd.V_lower (Kd.V_mono (ok' := fun k_ => some k_ ≠ (.slice Ao56 x253001_2.length co56 : Value).ownBlock ∧ some k_ ≠ (.slice Ao94 y304.length co94 : Value).ownBlock ∧ k_ ≠ gb252) ho0 (fun k_ hk_ => ⟨(Kd.fresh' (Kd.N_lt (by (with_reducible repeat (first | apply Kd.N_alloc | apply Kd.N_drewN | apply Kd.N_drew)); exact HO_253001.out)) k_ hk_), (Kd.fresh' (Kd.R_lt (by (with_reducible repeat (first | apply Kd.R_alloc | apply Kd.R_drewN | apply Kd.R_drew)); exact HO306.out)) k_ hk_), (Kd.freshB (g := gb252) (o := .cells #[.int .u8 a0, .slice Ao56 x253001_2.length co56] 30 (0, 0)) (by (with_reducible repeat (first | refine blk_drewN ?_ _ | refine blk_drew ?_ | refine blk_alloc ?_ _)); exact BK252.out) k_ hk_)⟩)) (below_size (by repeat (first | (with_reducible first | exact HB.out | apply below_alloc | apply pw_below_drewN | apply below_drew1 | refine below_set ?_ GE252.out) | exact HB.out)))); have n4_ := Aside0.mk (blk_below (g := gb252) (o := .cells #[.int .u8 a0, .slice Ao56 x253001_2.length co56] 30 (0, 0)) (by (with_reducible repeat (first | refine blk_drewN ?_ _ | refine blk_drew ?_ | refine blk_alloc ?_ _)); exact BK252.out) hb); have n5_ := Aside0.mk (below_step (by repeat (first | (with_reducible first | exact HB.out | apply below_alloc | apply pw_below_drewN | apply below_drew1 | refine below_set ?_ GE252.out) | exact HB.out)) hb); clear HO_253001; clear HO302; clear HO306; clear BK252; clear HB; have HO_253001 := n0_; have HO302 := n1_; have HO306 := n2_; have HO309 := n3_; have BK252 := n4_; have HB := n5_; clear n0_ n1_ n2_ n3_ n4_ n5_; (try clear hb); (try clear hb2); (try clear hk); (try clear hi); (try clear ho0); obtain ⟨Ao96, co96, eo96⟩ := Kd.V_slice HO309.out; subst eo96) | ((with_reducible refine gate_dst (N := 116) rfl ?_); (try (refine gate_guard (by rfl) ?_; dsimp only)); refine Kd.N_lit (Kd.slice 73 k73) _ 45 ?hg (N' := 116) ?hd (xs := ([t307] : List (List (S73)))) (inner := [.slice Ao96 t307.length co96]) (ok := (fun k_ => some k_ ≠ (.slice Ao56 x253001_2.length co56 : Value).ownBlock ∧ k_ ≠ gb252)) (okp := (fun k_ => some k_ ≠ (.slice Ao56 x253001_2.length co56 : Value).ownBlock ∧ k_ ≠ gb252)) ?hr ?hp (fun _ hk => hk) ((show ∀ k_, w95.heap.size ≤ k_ → (fun k_ => some k_ ≠ (.slice Ao56 x253001_2.length co56 : Value).ownBlock ∧ k_ ≠ gb252) k_ from fun k_ hk => ⟨Kd.fresh' (Kd.N_lt (by (with_reducible repeat (first | apply Kd.N_alloc | apply Kd.N_drewN | apply Kd.N_drew)); exact HO_253001.out)) k_ hk, Kd.freshB (g := gb252) (o := .cells #[.int .u8 a0, .slice Ao56 x253001_2.length co56] 30 (0, 0)) (by (with_reducible repeat (first | refine blk_drewN ?_ _ | refine blk_drew ?_ | refine blk_alloc ?_ _)); exact BK252.out) k_ hk⟩) _ (Nat.le_refl _)) (Below.refl _ _) (Nat.le_refl _) (by simp) ?_; (case hd => rfl); (case hg => rfl); (case hr => first | (go_simp; done) | (go_simp; rfl)); (case hp => exact (Reps.one (show Kd.FK (Kd.slice 73 k73) _ _ t307 [.slice Ao96 t307.length co96] from (Kd.FK_slice_mk (Kd.V_reads' (e := 73) (base := w.heap.size) (Kd.V_mono (e := 73) (base := w.heap.size) (ok' := (fun k_ => some k_ ≠ (.slice Ao56 x253001_2.length co56 : Value).ownBlock ∧ k_ ≠ gb252)) (HO309.out) (fun k_ hk => ⟨hk.1, hk.2.2⟩))).2.1 (Kd.V_F (e := 73) (base := w.heap.size) (Kd.V_mono (e := 73) (base := w.heap.size) (ok' := (fun k_ => some k_ ≠ (.slice Ao56 x253001_2.length co56 : Value).ownBlock ∧ k_ ≠ gb252)) (HO309.out) (fun k_ hk => ⟨hk.1, hk.2.2⟩))))) (Reps.none _ _))); intro v311 w97 ho98 hb hg_ hnew_; clear hg_ hnew_; (first | rw [← Ny310.out] at ho98 | (simp only [Int.reduceToNat] at ho98; rw [← Ny310.out] at ho98)); have n0_ := Aside0.mk (Kd.N_elder' (by (with_reducible repeat (first | apply Kd.N_alloc | apply Kd.N_drewN | apply Kd.N_drew)); exact HO_253001.out) (Kd.N_base ho98) hb); have n1_ := Aside0.mk (Kd.V_elder' (by (with_reducible repeat (first | apply Kd.V_alloc | apply Kd.V_drewN | apply Kd.V_drew)); exact HO302.out) (Kd.N_base ho98) hb); have n2_ := Aside0.mk (Kd.V_elder' (by (with_reducible repeat (first | apply Kd.V_alloc | apply Kd.V_drewN | apply Kd.V_drew)); exact HO309.out) (Kd.N_base ho98) hb); have n3_ := Aside0.mk (Kd.N_lower ho98 (below_size (by repeat (first | (with_reducible first | exact HB.out | apply below_alloc | apply pw_below_drewN | apply below_drew1 | refine below_set ?_ GE252.out) | exact HB.out)))); have n4_ := Aside0.mk (blk_below (g := gb252) (o := .cells #[.int .u8 a0, .slice Ao56 x253001_2.length co56] 30 (0, 0)) (by (with_reducible repeat (first | refine blk_drewN ?_ _ | refine blk_drew ?_ | refine blk_alloc ?_ _)); exact BK252.out) hb); have n5_ := Aside0.mk (below_step (by repeat (first | (with_reducible first | exact HB.out | apply below_alloc | apply pw_below_drewN | apply below_drew1 | refine below_set ?_ GE252.out) | exact HB.out)) hb); clear HO_253001; clear HO302; clear HO309; clear BK252; clear HB; have HO_253001 := n0_; have HO302 := n1_; have HO309 := n2_; have HO312 := n3_; have BK252 := n4_; have HB := n5_; clear n0_ n1_ n2_ n3_ n4_ n5_; clear hb ho98; obtain ⟨Ao99, co99, eo99⟩ := Kd.N_slice HO312.out; subst eo99) | ((with_reducible refine gate_callee (f := 27) rfl ?_); refine goesL_ (some 117) rfl rfl Try.func27 (by kernel_rfl) rfl #[.string (⟨#[]⟩ : ByteArray), .int .u8 0, .slice Ao99 y310.length co99] rfl (by (try simp only [List.map_toArray, List.map_cons, List.map_nil]); first | done | rfl | (simp only [List.length_drop, List.length_take]; rfl)) ?_; (with_reducible refine (block_Disk.calls (⟨#[]⟩ : ByteArray) 0 (fun k_ => (some k_ ≠ (.slice Ao56 x253001_2.length co56 : Value).ownBlock ∧ k_ ≠ gb252)) _ _ y310 t313 _ ?side1 A51.out).mono ?_); (case side1 => exact Kd.N_V (HO312.out)); rintro e w100 ⟨v314, rfl, ho0, hb⟩; refine ⟨_, rfl, ?_⟩; have n0_ := Aside0.mk (Kd.N_elder' (by (with_reducible repeat (first | apply Kd.N_alloc | apply Kd.N_drewN | apply Kd.N_drew)); exact HO_253001.out) (Kd.N_base ho0) hb); have n1_ := Aside0.mk (Kd.V_elder' (by (with_reducible repeat (first | apply Kd.V_alloc | apply Kd.V_drewN | apply Kd.V_drew)); exact HO302.out) (Kd.N_base ho0) hb); have n2_ := Aside0.mk (Kd.N_elder' (by (with_reducible repeat (first | apply Kd.N_alloc | apply Kd.N_drewN | apply Kd.N_drew)); exact HO312.out) (Kd.N_base ho0) hb); have n3_ := Aside0.mk (Kd.N_lower (Kd.N_mono (ok' := fun k_ => some k_ ≠ (.slice Ao56 x253001_2.length co56 : Value).ownBlock ∧ k_ ≠ gb252) ho0 (fun k_ hk_ => ⟨Or.elim hk_ (fun hs_ => hs_.1) (fun hn_ => (Kd.fresh' (Kd.N_lt (by (with_reducible repeat (first | apply Kd.N_alloc | apply Kd.N_drewN | apply Kd.N_drew)); exact HO_253001.out)) k_ hn_)), Or.elim hk_ (fun hs_ => hs_.2) (fun hn_ => (Kd.freshB (g := gb252) (o := .cells #[.int .u8 a0, .slice Ao56 x253001_2.length co56] 30 (0, 0)) (by (with_reducible repeat (first | refine blk_drewN ?_ _ | refine blk_drew ?_ | refine blk_alloc ?_ _)); exact BK252.out) k_ hn_))⟩)) (below_size (by repeat (first | (with_reducible first | exact HB.out | apply below_alloc | apply pw_below_drewN | apply below_drew1 | refine below_set ?_ GE252.out) | exact HB.out)))); have n4_ := Aside0.mk (blk_below (g := gb252) (o := .cells #[.int .u8 a0, .slice Ao56 x253001_2.length co56] 30 (0, 0)) (by (with_reducible repeat (first | refine blk_drewN ?_ _ | refine blk_drew ?_ | refine blk_alloc ?_ _)); exact BK252.out) hb); have n5_ := Aside0.mk (below_step (by repeat (first | (with_reducible first | exact HB.out | apply below_alloc | apply pw_below_drewN | apply below_drew1 | refine below_set ?_ GE252.out) | exact HB.out)) hb); clear HO_253001; clear HO302; clear HO312; clear BK252; clear HB; have HO_253001 := n0_; have HO302 := n1_; have HO312 := n2_; have HO315 := n3_; have BK252 := n4_; have HB := n5_; clear n0_ n1_ n2_ n3_ n4_ n5_; (try clear hb); (try clear hb2); (try clear hk); (try clear hi); (try clear ho0); obtain ⟨Ao101, co101, eo101⟩ := Kd.N_slice HO315.out; subst eo101) | ((with_reducible refine gate_callee (f := 24) rfl ?_); refine goesL_ (some 118) rfl rfl Try.func24 (by kernel_rfl) rfl #[.slice Ao101 t313.length co101] rfl (by (try simp only [List.map_toArray, List.map_cons, List.map_nil]); first | done | rfl | (simp only [List.length_drop, List.length_take]; rfl)) ?_; (with_reducible refine (disk_Wrap.calls k2 _ _ t313 t316 t317 _ ?side1 ?side2 A52.out).mono ?_); (case side1 => repeat (first | exact (Kd.N_reads' HO315.out).2.2 | (with_reducible refine Kd.C_alloc ?_ _) | (with_reducible refine Kd.C_drewN ?_ _) | (with_reducible refine Kd.C_drew ?_))); (case side2 => exact (Kd.N_reads' HO315.out).2.1); rintro e w102 ⟨v318, rfl, ho0, hb⟩; refine ⟨_, rfl, ?_⟩; have n0_ := Aside0.mk (Kd.N_elder' (by (with_reducible repeat (first | apply Kd.N_alloc | apply Kd.N_drewN | apply Kd.N_drew)); exact HO_253001.out) (Kd.R_base ho0) hb); have n1_ := Aside0.mk (Kd.V_elder' (by (with_reducible repeat (first | apply Kd.V_alloc | apply Kd.V_drewN | apply Kd.V_drew)); exact HO302.out) (Kd.R_base ho0) hb); have n2_ := Aside0.mk (Kd.N_elder' (by (with_reducible repeat (first | apply Kd.N_alloc | apply Kd.N_drewN | apply Kd.N_drew)); exact HO315.out) (Kd.R_base ho0) hb); have n3_ := Aside0.mk (Kd.R_lower ho0 (below_size (by repeat (first | (with_reducible first | exact HB.out | apply below_alloc | apply pw_below_drewN | apply below_drew1 | refine below_set ?_ GE252.out) | exact HB.out)))); have n4_ := Aside0.mk (blk_below (g := gb252) (o := .cells #[.int .u8 a0, .slice Ao56 x253001_2.length co56] 30 (0, 0)) (by (with_reducible repeat (first | refine blk_drewN ?_ _ | refine blk_drew ?_ | refine blk_alloc ?_ _)); exact BK252.out) hb); have n5_ := Aside0.mk (below_step (by repeat (first | (with_reducible first | exact HB.out | apply below_alloc | apply pw_below_drewN | apply below_drew1 | refine below_set ?_ GE252.out) | exact HB.out)) hb); clear HO_253001; clear HO302; clear HO315; clear BK252; clear HB; have HO_253001 := n0_; have HO302 := n1_; have HO315 := n2_; have HO319 := n3_; have BK252 := n4_; have HB := n5_; clear n0_ n1_ n2_ n3_ n4_ n5_; (try clear hb); (try clear hb2); (try clear hk); (try clear hi); (try clear ho0); obtain ⟨Ao103, co103, eo103⟩ := Kd.R_slice HO319.out; subst eo103) | ((with_reducible refine gate_dst (N := 123) rfl ?_); (try (refine gate_guard (by rfl) ?_; dsimp only)); refine Kd.N_lit (Kd.slice 5 (Kd.int .u8)) _ 22 ?hg (N' := 123) ?hd (xs := ([t316] : List (List Int))) (inner := [.slice Ao103 t316.length co103]) (ok := (fun k_ => some k_ ≠ (.slice Ao56 x253001_2.length co56 : Value).ownBlock ∧ k_ ≠ gb252)) (okp := (fun k_ => some k_ ≠ (.slice Ao56 x253001_2.length co56 : Value).ownBlock ∧ k_ ≠ gb252)) ?hr ?hp (fun _ hk => hk) ((show ∀ k_, w102.heap.size ≤ k_ → (fun k_ => some k_ ≠ (.slice Ao56 x253001_2.length co56 : Value).ownBlock ∧ k_ ≠ gb252) k_ from fun k_ hk => ⟨Kd.fresh' (Kd.N_lt (by (with_reducible repeat (first | apply Kd.N_alloc | apply Kd.N_drewN | apply Kd.N_drew)); exact HO_253001.out)) k_ hk, Kd.freshB (g := gb252) (o := .cells #[.int .u8 a0, .slice Ao56 x253001_2.length co56] 30 (0, 0)) (by (with_reducible repeat (first | refine blk_drewN ?_ _ | refine blk_drew ?_ | refine blk_alloc ?_ _)); exact BK252.out) k_ hk⟩) _ (Nat.le_refl _)) (Below.refl _ _) (Nat.le_refl _) (by simp) ?_; (case hd => rfl); (case hg => rfl); (case hr => first | (go_simp; done) | (go_simp; rfl)); (case hp => exact (Reps.one (show Kd.FK (Kd.slice 5 (Kd.int .u8)) _ _ t316 [.slice Ao103 t316.length co103] from (Kd.FK_slice_mk (Kd.R_reads' (Kd.R_mono (ok' := (fun k_ => some k_ ≠ (.slice Ao56 x253001_2.length co56 : Value).ownBlock ∧ k_ ≠ gb252)) (Kd.R_types (Kd.R_apart' (HO319.out) (Kd.N_typed HO_253001.out) (by decide)) BK252.out (by decide)) (fun k_ hk => ⟨hk.1.2, hk.2⟩))).2.1 (Kd.R_F (Kd.R_mono (ok' := (fun k_ => some k_ ≠ (.slice Ao56 x253001_2.length co56 : Value).ownBlock ∧ k_ ≠ gb252)) (Kd.R_types (Kd.R_apart' (HO319.out) (Kd.N_typed HO_253001.out) (by decide)) BK252.out (by decide)) (fun k_ hk => ⟨hk.1.2, hk.2⟩))))) (Reps.none _ _))); intro v321 w104 ho105 hb hg_ hnew_; clear hg_ hnew_; (first | rw [← Ny320.out] at ho105 | (simp only [Int.reduceToNat] at ho105; rw [← Ny320.out] at ho105)); have n0_ := Aside0.mk (Kd.N_elder' (by (with_reducible repeat (first | apply Kd.N_alloc | apply Kd.N_drewN | apply Kd.N_drew)); exact HO_253001.out) (Kd.N_base ho105) hb); have n1_ := Aside0.mk (Kd.V_elder' (by (with_reducible repeat (first | apply Kd.V_alloc | apply Kd.V_drewN | apply Kd.V_drew)); exact HO302.out) (Kd.N_base ho105) hb); have n2_ := Aside0.mk (Kd.N_lower ho105 (below_size (by repeat (first | (with_reducible first | exact HB.out | apply below_alloc | apply pw_below_drewN | apply below_drew1 | refine below_set ?_ GE252.out) | exact HB.out)))); have n3_ := Aside0.mk (blk_below (g := gb252) (o := .cells #[.int .u8 a0, .slice Ao56 x253001_2.length co56] 30 (0, 0)) (by (with_reducible repeat (first | refine blk_drewN ?_ _ | refine blk_drew ?_ | refine blk_alloc ?_ _)); exact BK252.out) hb); have n4_ := Aside0.mk (below_step (by repeat (first | (with_reducible first | exact HB.out | apply below_alloc | apply pw_below_drewN | apply below_drew1 | refine below_set ?_ GE252.out) | exact HB.out)) hb); clear HO_253001; clear HO302; clear BK252; clear HB; clear HO319; have HO_253001 := n0_; have HO302 := n1_; have HO322 := n2_; have BK252 := n3_; have HB := n4_; clear n0_ n1_ n2_ n3_ n4_; clear hb ho105; obtain ⟨Ao106, co106, eo106⟩ := Kd.N_slice HO322.out; subst eo106) | ((with_reducible refine gate_callee (f := 26) rfl ?_); refine goesL_ (some 125) rfl rfl Try.func26 (by kernel_rfl) rfl #[.agg #[.int .u8 3, .slice Ao106 y320.length co106], .int .u8 1] rfl (by (try simp only [List.map_toArray, List.map_cons, List.map_nil]); first | done | rfl | (simp only [List.length_drop, List.length_take]; rfl)) ?_; (with_reducible refine (disk_Set_To.calls k2 3 _ _ y320 1 t323 t324 t327 _ ?side1 ?side2 A53.out).mono ?_); (case side1 => repeat (first | exact (Kd.N_reads' HO322.out).2.2 | (with_reducible refine Kd.C_alloc ?_ _) | (with_reducible refine Kd.C_drewN ?_ _) | (with_reducible refine Kd.C_drew ?_))); (case side2 => exact (Kd.N_reads' HO322.out).2.1); rintro e w107 ⟨v325, rfl, ho0, hb⟩; refine ⟨_, rfl, ?_⟩; have n0_ := Aside0.mk (Kd.N_below (by (with_reducible repeat (first | apply Kd.N_alloc | apply Kd.N_drewN | apply Kd.N_drew)); exact HO_253001.out) hb); have n1_ := Aside0.mk (Kd.V_below (by (with_reducible repeat (first | apply Kd.V_alloc | apply Kd.V_drewN | apply Kd.V_drew)); exact HO302.out) hb); have n2_ := Aside0.mk (Kd.N_below (by (with_reducible repeat (first | apply Kd.N_alloc | apply Kd.N_drewN | apply Kd.N_drew)); exact HO322.out) hb); have n3_ := Aside0.mk (Kd.V_lower (Kd.V_mono (ok' := fun k_ => some k_ ≠ (.slice Ao56 x253001_2.length co56 : Value).ownBlock ∧ some k_ ≠ (.slice Ao106 y320.length co106 : Value).ownBlock ∧ k_ ≠ gb252) ho0 (fun k_ hk_ => ⟨(Kd.fresh' (Kd.N_lt (by (with_reducible repeat (first | apply Kd.N_alloc | apply Kd.N_drewN | apply Kd.N_drew)); exact HO_253001.out)) k_ hk_), (Kd.fresh' (Kd.N_lt (by (with_reducible repeat (first | apply Kd.N_alloc | apply Kd.N_drewN | apply Kd.N_drew)); exact HO322.out)) k_ hk_), (Kd.freshB (g := gb252) (o := .cells #[.int .u8 a0, .slice Ao56 x253001_2.length co56] 30 (0, 0)) (by (with_reducible repeat (first | refine blk_drewN ?_ _ | refine blk_drew ?_ | refine blk_alloc ?_ _)); exact BK252.out) k_ hk_)⟩)) (below_size (by repeat (first | (with_reducible first | exact HB.out | apply below_alloc | apply pw_below_drewN | apply below_drew1 | refine below_set ?_ GE252.out) | exact HB.out)))); have n4_ := Aside0.mk (blk_below (g := gb252) (o := .cells #[.int .u8 a0, .slice Ao56 x253001_2.length co56] 30 (0, 0)) (by (with_reducible repeat (first | refine blk_drewN ?_ _ | refine blk_drew ?_ | refine blk_alloc ?_ _)); exact BK252.out) hb); have n5_ := Aside0.mk (below_step (by repeat (first | (with_reducible first | exact HB.out | apply below_alloc | apply pw_below_drewN | apply below_drew1 | refine below_set ?_ GE252.out) | exact HB.out)) hb); clear HO_253001; clear HO302; clear HO322; clear BK252; clear HB; have HO_253001 := n0_; have HO302 := n1_; have HO322 := n2_; have HO326 := n3_; have BK252 := n4_; have HB := n5_; clear n0_ n1_ n2_ n3_ n4_ n5_; (try clear hb); (try clear hb2); (try clear hk); (try clear hi); (try clear ho0)) | ((with_reducible refine gate_dst (N := 22) rfl ?_); (try (refine gate_guard (by rfl) ?_; dsimp only)); refine box_event ?hg (N := 22) ?hd (cs := #[.int .u8 0, .slice none 0 0]) (t := 30) ?hr ?_; (case hd => rfl); (case hg => rfl); (case hr => first | (go_simp; done) | (go_simp; rfl)); intro gb328 hg w108 hbox hb; have n0_ := Aside0.mk (Kd.N_below (Kd.N_elderB (by (with_reducible repeat (first | apply Kd.N_alloc | apply Kd.N_drewN | apply Kd.N_drew)); exact HO_253001.out) gb328 (Nat.le_of_eq hg.symm)) hb); have n1_ := Aside0.mk (Kd.V_below (Kd.V_elderB (by (with_reducible repeat (first | apply Kd.V_alloc | apply Kd.V_drewN | apply Kd.V_drew)); exact HO302.out) gb328 (Nat.le_of_eq hg.symm)) hb); have n2_ := Aside0.mk (Kd.V_below (Kd.V_elderB (by (with_reducible repeat (first | apply Kd.V_alloc | apply Kd.V_drewN | apply Kd.V_drew)); exact HO326.out) gb328 (Nat.le_of_eq hg.symm)) hb); have n3_ := Aside0.mk (blk_below (g := gb252) (o := .cells #[.int .u8 a0, .slice Ao56 x253001_2.length co56] 30 (0, 0)) (by (with_reducible repeat (first | refine blk_drewN ?_ _ | refine blk_drew ?_ | refine blk_alloc ?_ _)); exact BK252.out) hb); have n4_ := Aside0.mk (below_step (by repeat (first | (with_reducible first | exact HB.out | apply below_alloc | apply pw_below_drewN | apply below_drew1 | refine below_set ?_ GE252.out) | exact HB.out)) hb); have n5_ := Aside0.mk (hbox); have n6_ := Aside0.mk ((by rw [hg]; exact (below_size (by repeat (first | (with_reducible first | exact HB.out | apply below_alloc | apply pw_below_drewN | apply below_drew1 | refine below_set ?_ GE252.out) | exact HB.out))) : w.heap.size ≤ gb328)); have n7_ := Aside0.mk ((by rw [hg]; exact (below_size (by repeat (first | (with_reducible first | exact HB.out | apply below_alloc | apply pw_below_drewN | apply below_drew1 | refine below_set ?_ GE252.out) | exact HB.out))) : w.heap.size ≤ gb328)); have n8_ := Aside0.mk ((by rw [hg]; exact Nat.ne_of_lt (blk_lt (g := gb252) (o := .cells #[.int .u8 a0, .slice Ao56 x253001_2.length co56] 30 (0, 0)) (by (with_reducible repeat (first | refine blk_drewN ?_ _ | refine blk_drew ?_ | refine blk_alloc ?_ _)); exact BK252.out)) : gb252 ≠ gb328)); have n9_ := Aside0.mk ((by rw [hg]; exact Nat.ne_of_gt (blk_lt (g := gb252) (o := .cells #[.int .u8 a0, .slice Ao56 x253001_2.length co56] 30 (0, 0)) (by (with_reducible repeat (first | refine blk_drewN ?_ _ | refine blk_drew ?_ | refine blk_alloc ?_ _)); exact BK252.out)) : gb328 ≠ gb252)); clear HO_253001; clear HO302; clear HO326; clear BK252; clear HB; have HO_253001 := n0_; have HO302 := n1_; have HO326 := n2_; have BK252 := n3_; have HB := n4_; have BK328 := n5_; have GW328 := n6_; have GE328 := n7_; have NB252_328 := n8_; have NB328_252 := n9_; clear n0_ n1_ n2_ n3_ n4_ n5_ n6_ n7_ n8_ n9_; clear hb hbox hg; have hnb109 := NB328_252.out; have hnc109 := NB252_328.out; have hcz110_0 : w108.cell? ⟨gb328, 0, none⟩ = some (.int .u8 0) := (blk_cell BK328.out 0).trans rfl; have hcz110_1 : w108.cell? ⟨gb328, 1, none⟩ = some (.slice none 0 0) := (blk_cell BK328.out 1).trans rfl; have hfz110_0 := blk_frozen BK328.out 0; have hfz110_1 := blk_frozen BK328.out 1; obtain ⟨Ao111, co111, eo111⟩ := Kd.V_slice HO326.out; subst eo111))
   (try simp only [Act.put, List.setIfInBounds_toArray, List.set_cons_zero, List.set_cons_succ])
   go_cut [6, 8, 13, 16, 18, 19, 21, 23] (fun v6 v8_ v13_ v16_ v18_ v19_ v21_ v23_ wc => ∃ (kq : Nat) (x6_53 : Bool), v6 = .bool x6_53 ∧ Aside0 (kotatsulaw06_DiskRefuses.j4 kq x6_53 = some r) ∧ Aside0 (kq ≤ k2) ∧ Aside0 (Below w.heap.size w wc))
   case first =>
    have H := HC54.out
    clear HC54
    replace H := Option.bind_eq_some_iff.mp H
    obtain ⟨t329, A1120, H⟩ := H
    replace H : (if (t329 == x8_2) = true then ((disk_Set_Bytes.f k2 a0 x253001_2).bind fun t330 => (if ((decide ((t330.length : Int) > 0)) == x8_2) = true then (if x8_2 = true then (if a2 ≥ 1 then (if ((t268 == 0) == (decide (a2 ≤ 3))) = true then (if t268 = 0 then (if t286 = 3 then (if t303 = true then (if (t300.length : Int) = 65500 then (kotatsulaw06_DiskRefuses.j4 k2 (t327 == 7)) else (kotatsulaw06_DiskRefuses.j4 k2 false)) else (kotatsulaw06_DiskRefuses.j4 k2 false)) else (kotatsulaw06_DiskRefuses.j4 k2 false)) else (if t268 = 1 then (if t286 = 3 then (if t303 = true then (if (t300.length : Int) = 65500 then (kotatsulaw06_DiskRefuses.j4 k2 (t327 == 7)) else (kotatsulaw06_DiskRefuses.j4 k2 false)) else (kotatsulaw06_DiskRefuses.j4 k2 false)) else (kotatsulaw06_DiskRefuses.j4 k2 false)) else (kotatsulaw06_DiskRefuses.j4 k2 false))) else (kotatsulaw06_DiskRefuses.j4 k2 false)) else (if ((t268 == 0) == false) = true then (if t268 = 0 then (if t286 = 3 then (if t303 = true then (if (t300.length : Int) = 65500 then (kotatsulaw06_DiskRefuses.j4 k2 (t327 == 7)) else (kotatsulaw06_DiskRefuses.j4 k2 false)) else (kotatsulaw06_DiskRefuses.j4 k2 false)) else (kotatsulaw06_DiskRefuses.j4 k2 false)) else (if t268 = 1 then (if t286 = 3 then (if t303 = true then (if (t300.length : Int) = 65500 then (kotatsulaw06_DiskRefuses.j4 k2 (t327 == 7)) else (kotatsulaw06_DiskRefuses.j4 k2 false)) else (kotatsulaw06_DiskRefuses.j4 k2 false)) else (kotatsulaw06_DiskRefuses.j4 k2 false)) else (kotatsulaw06_DiskRefuses.j4 k2 false))) else (kotatsulaw06_DiskRefuses.j4 k2 false))) else (if ((t268 == 0) == false) = true then (if t268 = 0 then (if t286 = 3 then (if t303 = true then (if (t300.length : Int) = 65500 then (kotatsulaw06_DiskRefuses.j4 k2 (t327 == 7)) else (kotatsulaw06_DiskRefuses.j4 k2 false)) else (kotatsulaw06_DiskRefuses.j4 k2 false)) else (kotatsulaw06_DiskRefuses.j4 k2 false)) else (if t268 = 1 then (if t286 = 3 then (if t303 = true then (if (t300.length : Int) = 65500 then (kotatsulaw06_DiskRefuses.j4 k2 (t327 == 7)) else (kotatsulaw06_DiskRefuses.j4 k2 false)) else (kotatsulaw06_DiskRefuses.j4 k2 false)) else (kotatsulaw06_DiskRefuses.j4 k2 false)) else (kotatsulaw06_DiskRefuses.j4 k2 false))) else (kotatsulaw06_DiskRefuses.j4 k2 false))) else (kotatsulaw06_DiskRefuses.j4 k2 false))) else (kotatsulaw06_DiskRefuses.j4 k2 false)) = some r := H
    have A112 := Aside0.mk A1120
    clear A1120
    refine (Classical.em ((t329 == x8_2) = true)).elim (fun c113 => ?pc113) (fun c113 => ?nc113)
    case' pc113 =>
     rw [if_pos c113] at H
     have c113b0 : (t329 == x8_2) = true := c113
     (try (have c113b1 : decide (t329 = x8_2) = true := by simpa using c113))
     (try (have c113b2 : (t329 == x8_2) = true := by simpa using c113))
     clear c113
     (first | rw [c113b0] | (simp only [i64_w, i32_w]; rw [c113b0]) | skip)
     replace H := Option.bind_eq_some_iff.mp H
     obtain ⟨t330, A1140, H⟩ := H
     replace H : (if ((decide ((t330.length : Int) > 0)) == x8_2) = true then (if x8_2 = true then (if a2 ≥ 1 then (if ((t268 == 0) == (decide (a2 ≤ 3))) = true then (if t268 = 0 then (if t286 = 3 then (if t303 = true then (if (t300.length : Int) = 65500 then (kotatsulaw06_DiskRefuses.j4 k2 (t327 == 7)) else (kotatsulaw06_DiskRefuses.j4 k2 false)) else (kotatsulaw06_DiskRefuses.j4 k2 false)) else (kotatsulaw06_DiskRefuses.j4 k2 false)) else (if t268 = 1 then (if t286 = 3 then (if t303 = true then (if (t300.length : Int) = 65500 then (kotatsulaw06_DiskRefuses.j4 k2 (t327 == 7)) else (kotatsulaw06_DiskRefuses.j4 k2 false)) else (kotatsulaw06_DiskRefuses.j4 k2 false)) else (kotatsulaw06_DiskRefuses.j4 k2 false)) else (kotatsulaw06_DiskRefuses.j4 k2 false))) else (kotatsulaw06_DiskRefuses.j4 k2 false)) else (if ((t268 == 0) == false) = true then (if t268 = 0 then (if t286 = 3 then (if t303 = true then (if (t300.length : Int) = 65500 then (kotatsulaw06_DiskRefuses.j4 k2 (t327 == 7)) else (kotatsulaw06_DiskRefuses.j4 k2 false)) else (kotatsulaw06_DiskRefuses.j4 k2 false)) else (kotatsulaw06_DiskRefuses.j4 k2 false)) else (if t268 = 1 then (if t286 = 3 then (if t303 = true then (if (t300.length : Int) = 65500 then (kotatsulaw06_DiskRefuses.j4 k2 (t327 == 7)) else (kotatsulaw06_DiskRefuses.j4 k2 false)) else (kotatsulaw06_DiskRefuses.j4 k2 false)) else (kotatsulaw06_DiskRefuses.j4 k2 false)) else (kotatsulaw06_DiskRefuses.j4 k2 false))) else (kotatsulaw06_DiskRefuses.j4 k2 false))) else (if ((t268 == 0) == false) = true then (if t268 = 0 then (if t286 = 3 then (if t303 = true then (if (t300.length : Int) = 65500 then (kotatsulaw06_DiskRefuses.j4 k2 (t327 == 7)) else (kotatsulaw06_DiskRefuses.j4 k2 false)) else (kotatsulaw06_DiskRefuses.j4 k2 false)) else (kotatsulaw06_DiskRefuses.j4 k2 false)) else (if t268 = 1 then (if t286 = 3 then (if t303 = true then (if (t300.length : Int) = 65500 then (kotatsulaw06_DiskRefuses.j4 k2 (t327 == 7)) else (kotatsulaw06_DiskRefuses.j4 k2 false)) else (kotatsulaw06_DiskRefuses.j4 k2 false)) else (kotatsulaw06_DiskRefuses.j4 k2 false)) else (kotatsulaw06_DiskRefuses.j4 k2 false))) else (kotatsulaw06_DiskRefuses.j4 k2 false))) else (kotatsulaw06_DiskRefuses.j4 k2 false)) = some r := H
     have A114 := Aside0.mk A1140
     clear A1140
     refine (Classical.em (((decide ((t330.length : Int) > 0)) == x8_2) = true)).elim (fun c115 => ?pc115) (fun c115 => ?nc115)
     case' pc115 =>
      rw [if_pos c115] at H
      have c115b0 : ((decide ((t330.length : Int) > 0)) == x8_2) = true := c115
      have c115b8 : decide (0 < t330.length) = x8_2 := (decide_eq_decide.2 (show (0 < t330.length) ↔ ((t330.length : Int) > 0) by omega)).trans (eq_of_beq c115b0)
      (try (have c115b1 : decide ((decide ((t330.length : Int) > 0)) = x8_2) = true := by simpa using c115))
      (try (have c115b2 : ((decide ((t330.length : Int) > 0)) == x8_2) = true := by simpa using c115))
      clear c115
      refine (Classical.em (x8_2 = true)).elim (fun c116 => ?pc116) (fun c116 => ?nc116)
      case' pc116 =>
       subst c116
       have H1 : (if a2 ≥ 1 then (if ((t268 == 0) == (decide (a2 ≤ 3))) = true then (if t268 = 0 then (if t286 = 3 then (if t303 = true then (if (t300.length : Int) = 65500 then (kotatsulaw06_DiskRefuses.j4 k2 (t327 == 7)) else (kotatsulaw06_DiskRefuses.j4 k2 false)) else (kotatsulaw06_DiskRefuses.j4 k2 false)) else (kotatsulaw06_DiskRefuses.j4 k2 false)) else (if t268 = 1 then (if t286 = 3 then (if t303 = true then (if (t300.length : Int) = 65500 then (kotatsulaw06_DiskRefuses.j4 k2 (t327 == 7)) else (kotatsulaw06_DiskRefuses.j4 k2 false)) else (kotatsulaw06_DiskRefuses.j4 k2 false)) else (kotatsulaw06_DiskRefuses.j4 k2 false)) else (kotatsulaw06_DiskRefuses.j4 k2 false))) else (kotatsulaw06_DiskRefuses.j4 k2 false)) else (if ((t268 == 0) == false) = true then (if t268 = 0 then (if t286 = 3 then (if t303 = true then (if (t300.length : Int) = 65500 then (kotatsulaw06_DiskRefuses.j4 k2 (t327 == 7)) else (kotatsulaw06_DiskRefuses.j4 k2 false)) else (kotatsulaw06_DiskRefuses.j4 k2 false)) else (kotatsulaw06_DiskRefuses.j4 k2 false)) else (if t268 = 1 then (if t286 = 3 then (if t303 = true then (if (t300.length : Int) = 65500 then (kotatsulaw06_DiskRefuses.j4 k2 (t327 == 7)) else (kotatsulaw06_DiskRefuses.j4 k2 false)) else (kotatsulaw06_DiskRefuses.j4 k2 false)) else (kotatsulaw06_DiskRefuses.j4 k2 false)) else (kotatsulaw06_DiskRefuses.j4 k2 false))) else (kotatsulaw06_DiskRefuses.j4 k2 false))) = some r := by rw [if_pos rfl] at H; exact H
       clear H
       have H := H1
       clear H1
       refine (Classical.em (a2 ≥ 1)).elim (fun c117 => ?pc117) (fun c117 => ?nc117)
       case' pc117 =>
        rw [if_pos c117] at H
        have c117b0 : decide (1 ≤ a2) = true := decide_eq_true c117
        clear c117
        refine (Classical.em (((t268 == 0) == (decide (a2 ≤ 3))) = true)).elim (fun c118 => ?pc118) (fun c118 => ?nc118)
        case' pc118 =>
         rw [if_pos c118] at H
         have c118b0 : ((t268 == 0) == (decide (a2 ≤ 3))) = true := c118
         have c118b8 := Aside0.mk (eq_of_beq c118b0).symm
         (try (have c118b1 : decide ((t268 == 0) = (decide (a2 ≤ 3))) = true := by simpa using c118))
         (try (have c118b2 : ((t268 == 0) == (decide (a2 ≤ 3))) = true := by simpa using c118))
         clear c118
         refine (Classical.em (t268 = 0)).elim (fun c119 => ?pc119) (fun c119 => ?nc119)
         case' pc119 =>
          rw [if_pos c119] at H
          have c119b0 : (t268 == 0) = true := beq_iff_eq.mpr c119
          (try have c119b8 : decide (a2 ≤ 3) = true := c118b8.out.trans c119b0)
          have c119b1 : (t268 != 0) = false := bne_eq_false_iff_eq.mpr c119
          clear c119
          refine (Classical.em (t286 = 3)).elim (fun c120 => ?pc120) (fun c120 => ?nc120)
          case' pc120 =>
           rw [if_pos c120] at H
           have c120b0 : (t286 == 3) = true := beq_iff_eq.mpr c120
           have c120b1 : (t286 != 3) = false := bne_eq_false_iff_eq.mpr c120
           clear c120
           refine (Classical.em (t303 = true)).elim (fun c121 => ?pc121) (fun c121 => ?nc121)
           case' pc121 =>
            subst c121
            have H1 : (if (t300.length : Int) = 65500 then (kotatsulaw06_DiskRefuses.j4 k2 (t327 == 7)) else (kotatsulaw06_DiskRefuses.j4 k2 false)) = some r := by rw [if_pos rfl] at H; exact H
            clear H
            have H := H1
            clear H1
            refine (Classical.em ((t300.length : Int) = 65500)).elim (fun c122 => ?pc122) (fun c122 => ?nc122)
            case' pc122 =>
             rw [if_pos c122] at H
             have c122b0 : ((t300.length : Int) == 65500) = true := beq_iff_eq.mpr c122
             have c122b1 : ((t300.length : Int) != 65500) = false := bne_eq_false_iff_eq.mpr c122
             clear c122
             have H' := Aside0.mk H
             clear H
             have hnb123 := NB252_328.out
             have hnc123 := NB328_252.out
             have hcz124_0 : w108.cell? ⟨gb252, 0, none⟩ = some (.int .u8 a0) := (blk_cell BK252.out 0).trans rfl
             have hcz124_1 : w108.cell? ⟨gb252, 1, none⟩ = some (.slice Ao56 x253001_2.length co56) := (blk_cell BK252.out 1).trans rfl
             have hfz124_0 := blk_frozen BK252.out 0
             have hfz124_1 := blk_frozen BK252.out 1
            case' nc122 =>
             rw [if_neg c122] at H
             have c122b0 : ((t300.length : Int) == 65500) = false := beq_eq_false_iff_ne.mpr c122
             have c122b1 : ((t300.length : Int) != 65500) = true := bne_iff_ne.mpr c122
             have H' := Aside0.mk H
             clear H
             have hnb130 := NB252_328.out
             have hnc130 := NB328_252.out
             have hcz131_0 : w108.cell? ⟨gb252, 0, none⟩ = some (.int .u8 a0) := (blk_cell BK252.out 0).trans rfl
             have hcz131_1 : w108.cell? ⟨gb252, 1, none⟩ = some (.slice Ao56 x253001_2.length co56) := (blk_cell BK252.out 1).trans rfl
             have hfz131_0 := blk_frozen BK252.out 0
             have hfz131_1 := blk_frozen BK252.out 1
           case' nc121 =>
            replace c121 := Bool.eq_false_iff.mpr c121
            subst c121
            have H1 : (kotatsulaw06_DiskRefuses.j4 k2 false) = some r := by rw [if_neg (show ¬ (false = true) by decide)] at H; exact H
            clear H
            have H := H1
            clear H1
            have H' := Aside0.mk H
            clear H
            have hnb137 := NB252_328.out
            have hnc137 := NB328_252.out
            have hcz138_0 : w108.cell? ⟨gb252, 0, none⟩ = some (.int .u8 a0) := (blk_cell BK252.out 0).trans rfl
            have hcz138_1 : w108.cell? ⟨gb252, 1, none⟩ = some (.slice Ao56 x253001_2.length co56) := (blk_cell BK252.out 1).trans rfl
            have hfz138_0 := blk_frozen BK252.out 0
            have hfz138_1 := blk_frozen BK252.out 1
          case' nc120 =>
           rw [if_neg c120] at H
           have c120b0 : (t286 == 3) = false := beq_eq_false_iff_ne.mpr c120
           have c120b1 : (t286 != 3) = true := bne_iff_ne.mpr c120
           have H' := Aside0.mk H
           clear H
           have hnb143 := NB252_328.out
           have hnc143 := NB328_252.out
           have hcz144_0 : w108.cell? ⟨gb252, 0, none⟩ = some (.int .u8 a0) := (blk_cell BK252.out 0).trans rfl
           have hcz144_1 : w108.cell? ⟨gb252, 1, none⟩ = some (.slice Ao56 x253001_2.length co56) := (blk_cell BK252.out 1).trans rfl
           have hfz144_0 := blk_frozen BK252.out 0
           have hfz144_1 := blk_frozen BK252.out 1
         case' nc119 =>
          rw [if_neg c119] at H
          have c119b0 : (t268 == 0) = false := beq_eq_false_iff_ne.mpr c119
          (try have c119b8 : decide (a2 ≤ 3) = false := c118b8.out.trans c119b0)
          have c119b1 : (t268 != 0) = true := bne_iff_ne.mpr c119
          refine (Classical.em (t268 = 1)).elim (fun c149 => ?pc149) (fun c149 => ?nc149)
          case' pc149 =>
           rw [if_pos c149] at H
           have c149b0 : (t268 == 1) = true := beq_iff_eq.mpr c149
           have c149b1 : (t268 != 1) = false := bne_eq_false_iff_eq.mpr c149
           clear c149
           refine (Classical.em (t286 = 3)).elim (fun c150 => ?pc150) (fun c150 => ?nc150)
           case' pc150 =>
            rw [if_pos c150] at H
            have c150b0 : (t286 == 3) = true := beq_iff_eq.mpr c150
            have c150b1 : (t286 != 3) = false := bne_eq_false_iff_eq.mpr c150
            clear c150
            refine (Classical.em (t303 = true)).elim (fun c151 => ?pc151) (fun c151 => ?nc151)
            case' pc151 =>
             subst c151
             have H1 : (if (t300.length : Int) = 65500 then (kotatsulaw06_DiskRefuses.j4 k2 (t327 == 7)) else (kotatsulaw06_DiskRefuses.j4 k2 false)) = some r := by rw [if_pos rfl] at H; exact H
             clear H
             have H := H1
             clear H1
             refine (Classical.em ((t300.length : Int) = 65500)).elim (fun c152 => ?pc152) (fun c152 => ?nc152)
             case' pc152 =>
              rw [if_pos c152] at H
              have c152b0 : ((t300.length : Int) == 65500) = true := beq_iff_eq.mpr c152
              have c152b1 : ((t300.length : Int) != 65500) = false := bne_eq_false_iff_eq.mpr c152
              clear c152
              have H' := Aside0.mk H
              clear H
              have hnb153 := NB252_328.out
              have hnc153 := NB328_252.out
              have hcz154_0 : w108.cell? ⟨gb252, 0, none⟩ = some (.int .u8 a0) := (blk_cell BK252.out 0).trans rfl
              have hcz154_1 : w108.cell? ⟨gb252, 1, none⟩ = some (.slice Ao56 x253001_2.length co56) := (blk_cell BK252.out 1).trans rfl
              have hfz154_0 := blk_frozen BK252.out 0
              have hfz154_1 := blk_frozen BK252.out 1
             case' nc152 =>
              rw [if_neg c152] at H
              have c152b0 : ((t300.length : Int) == 65500) = false := beq_eq_false_iff_ne.mpr c152
              have c152b1 : ((t300.length : Int) != 65500) = true := bne_iff_ne.mpr c152
              have H' := Aside0.mk H
              clear H
              have hnb160 := NB252_328.out
              have hnc160 := NB328_252.out
              have hcz161_0 : w108.cell? ⟨gb252, 0, none⟩ = some (.int .u8 a0) := (blk_cell BK252.out 0).trans rfl
              have hcz161_1 : w108.cell? ⟨gb252, 1, none⟩ = some (.slice Ao56 x253001_2.length co56) := (blk_cell BK252.out 1).trans rfl
              have hfz161_0 := blk_frozen BK252.out 0
              have hfz161_1 := blk_frozen BK252.out 1
            case' nc151 =>
             replace c151 := Bool.eq_false_iff.mpr c151
             subst c151
             have H1 : (kotatsulaw06_DiskRefuses.j4 k2 false) = some r := by rw [if_neg (show ¬ (false = true) by decide)] at H; exact H
             clear H
             have H := H1
             clear H1
             have H' := Aside0.mk H
             clear H
             have hnb167 := NB252_328.out
             have hnc167 := NB328_252.out
             have hcz168_0 : w108.cell? ⟨gb252, 0, none⟩ = some (.int .u8 a0) := (blk_cell BK252.out 0).trans rfl
             have hcz168_1 : w108.cell? ⟨gb252, 1, none⟩ = some (.slice Ao56 x253001_2.length co56) := (blk_cell BK252.out 1).trans rfl
             have hfz168_0 := blk_frozen BK252.out 0
             have hfz168_1 := blk_frozen BK252.out 1
           case' nc150 =>
            rw [if_neg c150] at H
            have c150b0 : (t286 == 3) = false := beq_eq_false_iff_ne.mpr c150
            have c150b1 : (t286 != 3) = true := bne_iff_ne.mpr c150
            have H' := Aside0.mk H
            clear H
            have hnb173 := NB252_328.out
            have hnc173 := NB328_252.out
            have hcz174_0 : w108.cell? ⟨gb252, 0, none⟩ = some (.int .u8 a0) := (blk_cell BK252.out 0).trans rfl
            have hcz174_1 : w108.cell? ⟨gb252, 1, none⟩ = some (.slice Ao56 x253001_2.length co56) := (blk_cell BK252.out 1).trans rfl
            have hfz174_0 := blk_frozen BK252.out 0
            have hfz174_1 := blk_frozen BK252.out 1
          case' nc149 =>
           rw [if_neg c149] at H
           have c149b0 : (t268 == 1) = false := beq_eq_false_iff_ne.mpr c149
           have c149b1 : (t268 != 1) = true := bne_iff_ne.mpr c149
           have H' := Aside0.mk H
           clear H
           have hnb179 := NB252_328.out
           have hnc179 := NB328_252.out
           have hcz180_0 : w108.cell? ⟨gb252, 0, none⟩ = some (.int .u8 a0) := (blk_cell BK252.out 0).trans rfl
           have hcz180_1 : w108.cell? ⟨gb252, 1, none⟩ = some (.slice Ao56 x253001_2.length co56) := (blk_cell BK252.out 1).trans rfl
           have hfz180_0 := blk_frozen BK252.out 0
           have hfz180_1 := blk_frozen BK252.out 1
        case' nc118 =>
         rw [if_neg c118] at H
         have c118b0 : ((t268 == 0) == (decide (a2 ≤ 3))) = false := by simpa using c118
         (try (have c118b1 : decide ((t268 == 0) = (decide (a2 ≤ 3))) = false := by simpa using c118))
         (try (have c118b2 : ((t268 == 0) == (decide (a2 ≤ 3))) = false := by simpa using c118))
         (try (have c118b3 : ¬ ((t268 == 0) = (decide (a2 ≤ 3))) := by simpa using c118))
         clear c118
         have H' := Aside0.mk H
         clear H
         have hnb185 := NB252_328.out
         have hnc185 := NB328_252.out
         have hcz186_0 : w108.cell? ⟨gb252, 0, none⟩ = some (.int .u8 a0) := (blk_cell BK252.out 0).trans rfl
         have hcz186_1 : w108.cell? ⟨gb252, 1, none⟩ = some (.slice Ao56 x253001_2.length co56) := (blk_cell BK252.out 1).trans rfl
         have hfz186_0 := blk_frozen BK252.out 0
         have hfz186_1 := blk_frozen BK252.out 1
       case' nc117 =>
        rw [if_neg c117] at H
        have c117b0 : decide (1 ≤ a2) = false := decide_eq_false c117
        clear c117
        refine (Classical.em (((t268 == 0) == false) = true)).elim (fun c191 => ?pc191) (fun c191 => ?nc191)
        case' pc191 =>
         rw [if_pos c191] at H
         have c191b0 : ((t268 == 0) == false) = true := c191
         (try (have c191b1 : decide ((t268 == 0) = false) = true := by simpa using c191))
         (try (have c191b2 : ((t268 == 0) == false) = true := by simpa using c191))
         clear c191
         refine (Classical.em (t268 = 0)).elim (fun c192 => ?pc192) (fun c192 => ?nc192)
         case' pc192 =>
          rw [if_pos c192] at H
          have c192b0 : (t268 == 0) = true := beq_iff_eq.mpr c192
          (try have c192b8 : decide (a2 ≤ 3) = true := c118b8.out.trans c192b0)
          exact absurd (show false = true by have h_ := c191b0; rw [c192b0] at h_; simp at h_) (by decide)
         case' nc192 =>
          rw [if_neg c192] at H
          have c192b0 : (t268 == 0) = false := beq_eq_false_iff_ne.mpr c192
          (try have c192b8 : decide (a2 ≤ 3) = false := c118b8.out.trans c192b0)
          have c192b1 : (t268 != 0) = true := bne_iff_ne.mpr c192
          refine (Classical.em (t268 = 1)).elim (fun c222 => ?pc222) (fun c222 => ?nc222)
          case' pc222 =>
           rw [if_pos c222] at H
           have c222b0 : (t268 == 1) = true := beq_iff_eq.mpr c222
           have c222b1 : (t268 != 1) = false := bne_eq_false_iff_eq.mpr c222
           clear c222
           refine (Classical.em (t286 = 3)).elim (fun c223 => ?pc223) (fun c223 => ?nc223)
           case' pc223 =>
            rw [if_pos c223] at H
            have c223b0 : (t286 == 3) = true := beq_iff_eq.mpr c223
            have c223b1 : (t286 != 3) = false := bne_eq_false_iff_eq.mpr c223
            clear c223
            refine (Classical.em (t303 = true)).elim (fun c224 => ?pc224) (fun c224 => ?nc224)
            case' pc224 =>
             subst c224
             have H1 : (if (t300.length : Int) = 65500 then (kotatsulaw06_DiskRefuses.j4 k2 (t327 == 7)) else (kotatsulaw06_DiskRefuses.j4 k2 false)) = some r := by rw [if_pos rfl] at H; exact H
             clear H
             have H := H1
             clear H1
             refine (Classical.em ((t300.length : Int) = 65500)).elim (fun c225 => ?pc225) (fun c225 => ?nc225)
             case' pc225 =>
              rw [if_pos c225] at H
              have c225b0 : ((t300.length : Int) == 65500) = true := beq_iff_eq.mpr c225
              have c225b1 : ((t300.length : Int) != 65500) = false := bne_eq_false_iff_eq.mpr c225
              clear c225
              have H' := Aside0.mk H
              clear H
              have hnb226 := NB252_328.out
              have hnc226 := NB328_252.out
              have hcz227_0 : w108.cell? ⟨gb252, 0, none⟩ = some (.int .u8 a0) := (blk_cell BK252.out 0).trans rfl
              have hcz227_1 : w108.cell? ⟨gb252, 1, none⟩ = some (.slice Ao56 x253001_2.length co56) := (blk_cell BK252.out 1).trans rfl
              have hfz227_0 := blk_frozen BK252.out 0
              have hfz227_1 := blk_frozen BK252.out 1
             case' nc225 =>
              rw [if_neg c225] at H
              have c225b0 : ((t300.length : Int) == 65500) = false := beq_eq_false_iff_ne.mpr c225
              have c225b1 : ((t300.length : Int) != 65500) = true := bne_iff_ne.mpr c225
              have H' := Aside0.mk H
              clear H
              have hnb233 := NB252_328.out
              have hnc233 := NB328_252.out
              have hcz234_0 : w108.cell? ⟨gb252, 0, none⟩ = some (.int .u8 a0) := (blk_cell BK252.out 0).trans rfl
              have hcz234_1 : w108.cell? ⟨gb252, 1, none⟩ = some (.slice Ao56 x253001_2.length co56) := (blk_cell BK252.out 1).trans rfl
              have hfz234_0 := blk_frozen BK252.out 0
              have hfz234_1 := blk_frozen BK252.out 1
            case' nc224 =>
             replace c224 := Bool.eq_false_iff.mpr c224
             subst c224
             have H1 : (kotatsulaw06_DiskRefuses.j4 k2 false) = some r := by rw [if_neg (show ¬ (false = true) by decide)] at H; exact H
             clear H
             have H := H1
             clear H1
             have H' := Aside0.mk H
             clear H
             have hnb240 := NB252_328.out
             have hnc240 := NB328_252.out
             have hcz241_0 : w108.cell? ⟨gb252, 0, none⟩ = some (.int .u8 a0) := (blk_cell BK252.out 0).trans rfl
             have hcz241_1 : w108.cell? ⟨gb252, 1, none⟩ = some (.slice Ao56 x253001_2.length co56) := (blk_cell BK252.out 1).trans rfl
             have hfz241_0 := blk_frozen BK252.out 0
             have hfz241_1 := blk_frozen BK252.out 1
           case' nc223 =>
            rw [if_neg c223] at H
            have c223b0 : (t286 == 3) = false := beq_eq_false_iff_ne.mpr c223
            have c223b1 : (t286 != 3) = true := bne_iff_ne.mpr c223
            have H' := Aside0.mk H
            clear H
            have hnb246 := NB252_328.out
            have hnc246 := NB328_252.out
            have hcz247_0 : w108.cell? ⟨gb252, 0, none⟩ = some (.int .u8 a0) := (blk_cell BK252.out 0).trans rfl
            have hcz247_1 : w108.cell? ⟨gb252, 1, none⟩ = some (.slice Ao56 x253001_2.length co56) := (blk_cell BK252.out 1).trans rfl
            have hfz247_0 := blk_frozen BK252.out 0
            have hfz247_1 := blk_frozen BK252.out 1
          case' nc222 =>
           rw [if_neg c222] at H
           have c222b0 : (t268 == 1) = false := beq_eq_false_iff_ne.mpr c222
           have c222b1 : (t268 != 1) = true := bne_iff_ne.mpr c222
           have H' := Aside0.mk H
           clear H
           have hnb252 := NB252_328.out
           have hnc252 := NB328_252.out
           have hcz253_0 : w108.cell? ⟨gb252, 0, none⟩ = some (.int .u8 a0) := (blk_cell BK252.out 0).trans rfl
           have hcz253_1 : w108.cell? ⟨gb252, 1, none⟩ = some (.slice Ao56 x253001_2.length co56) := (blk_cell BK252.out 1).trans rfl
           have hfz253_0 := blk_frozen BK252.out 0
           have hfz253_1 := blk_frozen BK252.out 1
        case' nc191 =>
         rw [if_neg c191] at H
         have c191b0 : ((t268 == 0) == false) = false := by simpa using c191
         (try (have c191b1 : decide ((t268 == 0) = false) = false := by simpa using c191))
         (try (have c191b2 : ((t268 == 0) == false) = false := by simpa using c191))
         (try (have c191b3 : ¬ ((t268 == 0) = false) := by simpa using c191))
         clear c191
         have H' := Aside0.mk H
         clear H
         have hnb258 := NB252_328.out
         have hnc258 := NB328_252.out
         have hcz259_0 : w108.cell? ⟨gb252, 0, none⟩ = some (.int .u8 a0) := (blk_cell BK252.out 0).trans rfl
         have hcz259_1 : w108.cell? ⟨gb252, 1, none⟩ = some (.slice Ao56 x253001_2.length co56) := (blk_cell BK252.out 1).trans rfl
         have hfz259_0 := blk_frozen BK252.out 0
         have hfz259_1 := blk_frozen BK252.out 1
      case' nc116 =>
       replace c116 := Bool.eq_false_iff.mpr c116
       subst c116
       have c116b8 : (t330 = []) = True := eq_true (List.eq_nil_of_length_eq_zero (by have h_ := of_decide_eq_false c115b8; omega))
       have H1 : (if ((t268 == 0) == false) = true then (if t268 = 0 then (if t286 = 3 then (if t303 = true then (if (t300.length : Int) = 65500 then (kotatsulaw06_DiskRefuses.j4 k2 (t327 == 7)) else (kotatsulaw06_DiskRefuses.j4 k2 false)) else (kotatsulaw06_DiskRefuses.j4 k2 false)) else (kotatsulaw06_DiskRefuses.j4 k2 false)) else (if t268 = 1 then (if t286 = 3 then (if t303 = true then (if (t300.length : Int) = 65500 then (kotatsulaw06_DiskRefuses.j4 k2 (t327 == 7)) else (kotatsulaw06_DiskRefuses.j4 k2 false)) else (kotatsulaw06_DiskRefuses.j4 k2 false)) else (kotatsulaw06_DiskRefuses.j4 k2 false)) else (kotatsulaw06_DiskRefuses.j4 k2 false))) else (kotatsulaw06_DiskRefuses.j4 k2 false)) = some r := by rw [if_neg (show ¬ (false = true) by decide)] at H; exact H
       clear H
       have H := H1
       clear H1
       refine (Classical.em (((t268 == 0) == false) = true)).elim (fun c264 => ?pc264) (fun c264 => ?nc264)
       case' pc264 =>
        rw [if_pos c264] at H
        have c264b0 : ((t268 == 0) == false) = true := c264
        (try (have c264b1 : decide ((t268 == 0) = false) = true := by simpa using c264))
        (try (have c264b2 : ((t268 == 0) == false) = true := by simpa using c264))
        clear c264
        refine (Classical.em (t268 = 0)).elim (fun c265 => ?pc265) (fun c265 => ?nc265)
        case' pc265 =>
         rw [if_pos c265] at H
         have c265b0 : (t268 == 0) = true := beq_iff_eq.mpr c265
         (try have c265b8 : decide (a2 ≤ 3) = true := c118b8.out.trans c265b0)
         exact absurd (show false = true by have h_ := c264b0; rw [c265b0] at h_; simp at h_) (by decide)
        case' nc265 =>
         rw [if_neg c265] at H
         have c265b0 : (t268 == 0) = false := beq_eq_false_iff_ne.mpr c265
         (try have c265b8 : decide (a2 ≤ 3) = false := c118b8.out.trans c265b0)
         have c265b1 : (t268 != 0) = true := bne_iff_ne.mpr c265
         refine (Classical.em (t268 = 1)).elim (fun c295 => ?pc295) (fun c295 => ?nc295)
         case' pc295 =>
          rw [if_pos c295] at H
          have c295b0 : (t268 == 1) = true := beq_iff_eq.mpr c295
          have c295b1 : (t268 != 1) = false := bne_eq_false_iff_eq.mpr c295
          clear c295
          refine (Classical.em (t286 = 3)).elim (fun c296 => ?pc296) (fun c296 => ?nc296)
          case' pc296 =>
           rw [if_pos c296] at H
           have c296b0 : (t286 == 3) = true := beq_iff_eq.mpr c296
           have c296b1 : (t286 != 3) = false := bne_eq_false_iff_eq.mpr c296
           clear c296
           refine (Classical.em (t303 = true)).elim (fun c297 => ?pc297) (fun c297 => ?nc297)
           case' pc297 =>
            subst c297
            have H1 : (if (t300.length : Int) = 65500 then (kotatsulaw06_DiskRefuses.j4 k2 (t327 == 7)) else (kotatsulaw06_DiskRefuses.j4 k2 false)) = some r := by rw [if_pos rfl] at H; exact H
            clear H
            have H := H1
            clear H1
            refine (Classical.em ((t300.length : Int) = 65500)).elim (fun c298 => ?pc298) (fun c298 => ?nc298)
            case' pc298 =>
             rw [if_pos c298] at H
             have c298b0 : ((t300.length : Int) == 65500) = true := beq_iff_eq.mpr c298
             have c298b1 : ((t300.length : Int) != 65500) = false := bne_eq_false_iff_eq.mpr c298
             clear c298
             have H' := Aside0.mk H
             clear H
             have hnb299 := NB252_328.out
             have hnc299 := NB328_252.out
             have hcz300_0 : w108.cell? ⟨gb252, 0, none⟩ = some (.int .u8 a0) := (blk_cell BK252.out 0).trans rfl
             have hcz300_1 : w108.cell? ⟨gb252, 1, none⟩ = some (.slice Ao56 x253001_2.length co56) := (blk_cell BK252.out 1).trans rfl
             have hfz300_0 := blk_frozen BK252.out 0
             have hfz300_1 := blk_frozen BK252.out 1
            case' nc298 =>
             rw [if_neg c298] at H
             have c298b0 : ((t300.length : Int) == 65500) = false := beq_eq_false_iff_ne.mpr c298
             have c298b1 : ((t300.length : Int) != 65500) = true := bne_iff_ne.mpr c298
             have H' := Aside0.mk H
             clear H
             have hnb306 := NB252_328.out
             have hnc306 := NB328_252.out
             have hcz307_0 : w108.cell? ⟨gb252, 0, none⟩ = some (.int .u8 a0) := (blk_cell BK252.out 0).trans rfl
             have hcz307_1 : w108.cell? ⟨gb252, 1, none⟩ = some (.slice Ao56 x253001_2.length co56) := (blk_cell BK252.out 1).trans rfl
             have hfz307_0 := blk_frozen BK252.out 0
             have hfz307_1 := blk_frozen BK252.out 1
           case' nc297 =>
            replace c297 := Bool.eq_false_iff.mpr c297
            subst c297
            have H1 : (kotatsulaw06_DiskRefuses.j4 k2 false) = some r := by rw [if_neg (show ¬ (false = true) by decide)] at H; exact H
            clear H
            have H := H1
            clear H1
            have H' := Aside0.mk H
            clear H
            have hnb313 := NB252_328.out
            have hnc313 := NB328_252.out
            have hcz314_0 : w108.cell? ⟨gb252, 0, none⟩ = some (.int .u8 a0) := (blk_cell BK252.out 0).trans rfl
            have hcz314_1 : w108.cell? ⟨gb252, 1, none⟩ = some (.slice Ao56 x253001_2.length co56) := (blk_cell BK252.out 1).trans rfl
            have hfz314_0 := blk_frozen BK252.out 0
            have hfz314_1 := blk_frozen BK252.out 1
          case' nc296 =>
           rw [if_neg c296] at H
           have c296b0 : (t286 == 3) = false := beq_eq_false_iff_ne.mpr c296
           have c296b1 : (t286 != 3) = true := bne_iff_ne.mpr c296
           have H' := Aside0.mk H
           clear H
           have hnb319 := NB252_328.out
           have hnc319 := NB328_252.out
           have hcz320_0 : w108.cell? ⟨gb252, 0, none⟩ = some (.int .u8 a0) := (blk_cell BK252.out 0).trans rfl
           have hcz320_1 : w108.cell? ⟨gb252, 1, none⟩ = some (.slice Ao56 x253001_2.length co56) := (blk_cell BK252.out 1).trans rfl
           have hfz320_0 := blk_frozen BK252.out 0
           have hfz320_1 := blk_frozen BK252.out 1
         case' nc295 =>
          rw [if_neg c295] at H
          have c295b0 : (t268 == 1) = false := beq_eq_false_iff_ne.mpr c295
          have c295b1 : (t268 != 1) = true := bne_iff_ne.mpr c295
          have H' := Aside0.mk H
          clear H
          have hnb325 := NB252_328.out
          have hnc325 := NB328_252.out
          have hcz326_0 : w108.cell? ⟨gb252, 0, none⟩ = some (.int .u8 a0) := (blk_cell BK252.out 0).trans rfl
          have hcz326_1 : w108.cell? ⟨gb252, 1, none⟩ = some (.slice Ao56 x253001_2.length co56) := (blk_cell BK252.out 1).trans rfl
          have hfz326_0 := blk_frozen BK252.out 0
          have hfz326_1 := blk_frozen BK252.out 1
       case' nc264 =>
        rw [if_neg c264] at H
        have c264b0 : ((t268 == 0) == false) = false := by simpa using c264
        (try (have c264b1 : decide ((t268 == 0) = false) = false := by simpa using c264))
        (try (have c264b2 : ((t268 == 0) == false) = false := by simpa using c264))
        (try (have c264b3 : ¬ ((t268 == 0) = false) := by simpa using c264))
        clear c264
        have H' := Aside0.mk H
        clear H
        have hnb331 := NB252_328.out
        have hnc331 := NB328_252.out
        have hcz332_0 : w108.cell? ⟨gb252, 0, none⟩ = some (.int .u8 a0) := (blk_cell BK252.out 0).trans rfl
        have hcz332_1 : w108.cell? ⟨gb252, 1, none⟩ = some (.slice Ao56 x253001_2.length co56) := (blk_cell BK252.out 1).trans rfl
        have hfz332_0 := blk_frozen BK252.out 0
        have hfz332_1 := blk_frozen BK252.out 1
     case' nc115 =>
      rw [if_neg c115] at H
      have c115b0 : ((decide ((t330.length : Int) > 0)) == x8_2) = false := by simpa using c115
      have c115b8 : decide (0 < t330.length) = !x8_2 := (decide_eq_decide.2 (show (0 < t330.length) ↔ ((t330.length : Int) > 0) by omega)).trans (ne_beq _ _ c115b0)
      (try (have c115b1 : decide ((decide ((t330.length : Int) > 0)) = x8_2) = false := by simpa using c115))
      (try (have c115b2 : ((decide ((t330.length : Int) > 0)) == x8_2) = false := by simpa using c115))
      (try (have c115b3 : ¬ ((decide ((t330.length : Int) > 0)) = x8_2) := by simpa using c115))
      clear c115
      have H' := Aside0.mk H
      clear H
      have hnb337 := NB252_328.out
      have hnc337 := NB328_252.out
      have hcz338_0 : w108.cell? ⟨gb252, 0, none⟩ = some (.int .u8 a0) := (blk_cell BK252.out 0).trans rfl
      have hcz338_1 : w108.cell? ⟨gb252, 1, none⟩ = some (.slice Ao56 x253001_2.length co56) := (blk_cell BK252.out 1).trans rfl
      have hfz338_0 := blk_frozen BK252.out 0
      have hfz338_1 := blk_frozen BK252.out 1
    case' nc113 =>
     rw [if_neg c113] at H
     have c113b0 : (t329 == x8_2) = false := by simpa using c113
     (try (have c113b1 : decide (t329 = x8_2) = false := by simpa using c113))
     (try (have c113b2 : (t329 == x8_2) = false := by simpa using c113))
     (try (have c113b3 : ¬ (t329 = x8_2) := by simpa using c113))
     clear c113
     (first | rw [c113b0] | (simp only [i64_w, i32_w]; rw [c113b0]) | skip)
     have H' := Aside0.mk H
     clear H
     have hnb343 := NB252_328.out
     have hnc343 := NB328_252.out
     have hcz344_0 : w108.cell? ⟨gb252, 0, none⟩ = some (.int .u8 a0) := (blk_cell BK252.out 0).trans rfl
     have hcz344_1 : w108.cell? ⟨gb252, 1, none⟩ = some (.slice Ao56 x253001_2.length co56) := (blk_cell BK252.out 1).trans rfl
     have hfz344_0 := blk_frozen BK252.out 0
     have hfz344_1 := blk_frozen BK252.out 1
    all_goals as_aux_lemma =>
     (go_wp2_with (first | ((with_reducible refine gate_callee (f := 16) rfl ?_); refine goesL_ (some 129) rfl rfl Try.func16 (by kernel_rfl) rfl #[.agg #[.int .u8 a0, .slice Ao56 x253001_2.length co56]] rfl (by (try simp only [List.map_toArray, List.map_cons, List.map_nil]); first | done | rfl | (simp only [List.length_drop, List.length_take]; rfl)) ?_; (with_reducible refine (disk_Set_Right.calls k2 a0 _ _ x253001_2 t329 _ ?side1 ?side2 A112.out).mono ?_); (case side1 => refine (Kd.N_reads' (e := 22) (base := w.heap.size) (ok := fun k_ => (((((((((((some k_ ≠ (.slice (some ad277) y273.length co67 : Value).ownBlock ∧ (k_ ≠ gb252 ∧ (k_ ≠ gb269 ∧ k_ ≠ gb276))) ∧ k_ ≠ gb287) ∧ some k_ ≠ (.slice Ao83 y288.length co83 : Value).ownBlock) ∧ some k_ ≠ (.slice Ao88 y294.length co88 : Value).ownBlock) ∧ some k_ ≠ (.slice Ao90 t297.length co90 : Value).ownBlock) ∧ some k_ ≠ (.slice Ao94 y304.length co94 : Value).ownBlock) ∧ some k_ ≠ (.slice Ao99 y310.length co99 : Value).ownBlock) ∧ some k_ ≠ (.slice Ao101 t313.length co101 : Value).ownBlock) ∧ some k_ ≠ (.slice Ao103 t316.length co103 : Value).ownBlock) ∧ some k_ ≠ (.slice Ao106 y320.length co106 : Value).ownBlock) ∧ k_ ≠ gb328)) (n := x253001_2.length) (c := co56) ?_).2.2; exact (by (with_reducible repeat (first | apply Kd.N_alloc | apply Kd.N_drewN | apply Kd.N_drew)); exact (Kd.N_mono (Kd.N_far (p := ⟨gb328, 1, none⟩) (Kd.N_far (p := ⟨gb328, 0, none⟩) (Kd.N_mono HO_253001.out (fun k_ hk => (⟨hk, hk.2⟩ : _ ∧ k_ ≠ gb328))) (fun _ hk => hk.2) (.int .u8 t323)) (fun _ hk => hk.2) (.slice Ao111 t324.length co111)) (fun _ h_ => h_.1)))); (case side2 => exact (Kd.N_reads' HO_253001.out).2.1); rintro e w125 ⟨rfl, hb⟩; refine ⟨_, rfl, ?_⟩; have n0_ := Aside0.mk (Kd.N_below (by (with_reducible repeat (first | apply Kd.N_alloc | apply Kd.N_drewN | apply Kd.N_drew)); exact (Kd.N_mono (Kd.N_far (p := ⟨gb328, 1, none⟩) (Kd.N_far (p := ⟨gb328, 0, none⟩) (Kd.N_mono HO_253001.out (fun k_ hk => (⟨hk, hk.2⟩ : _ ∧ k_ ≠ gb328))) (fun _ hk => hk.2) (.int .u8 t323)) (fun _ hk => hk.2) (.slice Ao111 t324.length co111)) (fun _ h_ => h_.1))) hb); have n1_ := Aside0.mk (Kd.V_below (by (with_reducible repeat (first | apply Kd.V_alloc | apply Kd.V_drewN | apply Kd.V_drew)); exact (Kd.V_mono (Kd.V_far (p := ⟨gb328, 1, none⟩) (Kd.V_far (p := ⟨gb328, 0, none⟩) (Kd.V_mono HO302.out (fun k_ hk => (⟨hk, hk.2⟩ : _ ∧ k_ ≠ gb328))) (fun _ hk => hk.2) (.int .u8 t323)) (fun _ hk => hk.2) (.slice Ao111 t324.length co111)) (fun _ h_ => h_.1))) hb); have n2_ := Aside0.mk (Kd.V_below (by (with_reducible repeat (first | apply Kd.V_alloc | apply Kd.V_drewN | apply Kd.V_drew)); exact (Kd.V_mono (Kd.V_far (p := ⟨gb328, 1, none⟩) (Kd.V_far (p := ⟨gb328, 0, none⟩) (Kd.V_mono HO326.out (fun k_ hk => (⟨hk, hk.2⟩ : _ ∧ k_ ≠ gb328))) (fun _ hk => hk.2) (.int .u8 t323)) (fun _ hk => hk.2) (.slice Ao111 t324.length co111)) (fun _ h_ => h_.1))) hb); have n3_ := Aside0.mk (blk_below (g := gb252) (o := .cells #[.int .u8 a0, .slice Ao56 x253001_2.length co56] 30 (0, 0)) (by (with_reducible repeat (first | refine blk_drewN ?_ _ | refine blk_drew ?_ | refine blk_alloc ?_ _)); refine blk_far ?_ NB252_328.out _; (with_reducible repeat (first | refine blk_drewN ?_ _ | refine blk_drew ?_ | refine blk_alloc ?_ _)); refine blk_far ?_ NB252_328.out _; (with_reducible repeat (first | refine blk_drewN ?_ _ | refine blk_drew ?_ | refine blk_alloc ?_ _)); exact BK252.out) hb); have n4_ := Aside0.mk (blk_below (g := gb328) (o := .cells #[.int .u8 t323, .slice Ao111 t324.length co111] 30 (0, 0)) (by (with_reducible repeat (first | refine blk_drewN ?_ _ | refine blk_drew ?_ | refine blk_alloc ?_ _)); refine blk_put (cs := #[.int .u8 t323, .slice none 0 0]) ?_ 1 _ rfl; (with_reducible repeat (first | refine blk_drewN ?_ _ | refine blk_drew ?_ | refine blk_alloc ?_ _)); refine blk_put (cs := #[.int .u8 0, .slice none 0 0]) ?_ 0 _ rfl; (with_reducible repeat (first | refine blk_drewN ?_ _ | refine blk_drew ?_ | refine blk_alloc ?_ _)); exact BK328.out) hb); have n5_ := Aside0.mk (below_step (by repeat (first | (with_reducible first | exact HB.out | apply below_alloc | apply pw_below_drewN | apply below_drew1 | refine below_set ?_ GE252.out | refine below_set ?_ GE328.out) | exact HB.out)) hb); clear HO_253001; clear HO302; clear HO326; clear BK252; clear BK328; clear HB; have HO_253001 := n0_; have HO302 := n1_; have HO326 := n2_; have BK252 := n3_; have BK328 := n4_; have HB := n5_; clear n0_ n1_ n2_ n3_ n4_ n5_; (try clear hb); (try clear hb2); (try clear hk); (try clear hi); have hcz126_0 : w125.cell? ⟨gb252, 0, none⟩ = some (.int .u8 a0) := (blk_cell BK252.out 0).trans rfl; have hcz126_1 : w125.cell? ⟨gb252, 1, none⟩ = some (.slice Ao56 x253001_2.length co56) := (blk_cell BK252.out 1).trans rfl; have hfz126_0 := blk_frozen BK252.out 0; have hfz126_1 := blk_frozen BK252.out 1) | (go_at_call 15; (with_reducible refine (disk_Set_Bytes.calls k2 a0 _ _ x253001_2 t330 _ ?side1 ?side2 A114.out).mono ?_); (case side1 => repeat (first | exact (Kd.N_reads' HO_253001.out).2.2 | (with_reducible refine Kd.C_alloc ?_ _) | (with_reducible refine Kd.C_drewN ?_ _) | (with_reducible refine Kd.C_drew ?_))); (case side2 => exact (Kd.N_reads' HO_253001.out).2.1); rintro e w127 ⟨v331, rfl, ho0, hb⟩; have n0_ := Aside0.mk (Kd.N_elder' (by (with_reducible repeat (first | apply Kd.N_alloc | apply Kd.N_drewN | apply Kd.N_drew)); exact HO_253001.out) (Kd.R_base ho0) hb); have n1_ := Aside0.mk (Kd.V_elder' (by (with_reducible repeat (first | apply Kd.V_alloc | apply Kd.V_drewN | apply Kd.V_drew)); exact HO302.out) (Kd.R_base ho0) hb); have n2_ := Aside0.mk (Kd.R_lower ho0 (below_size (by repeat (first | (with_reducible first | exact HB.out | apply below_alloc | apply pw_below_drewN | apply below_drew1) | exact HB.out)))); have n3_ := Aside0.mk (below_step (by repeat (first | (with_reducible first | exact HB.out | apply below_alloc | apply pw_below_drewN | apply below_drew1) | exact HB.out)) hb); clear HO_253001; clear HO302; clear HB; have HO_253001 := n0_; have HO302 := n1_; have HO332 := n2_; have HB := n3_; clear n0_ n1_ n2_ n3_; (try clear hb); (try clear hb2); (try clear hk); (try clear hi); (try clear ho0); obtain ⟨Ao128, co128, eo128⟩ := Kd.R_slice HO332.out; subst eo128; obtain ⟨Ao129, co129, eo129⟩ := Kd.V_slice HO302.out; subst eo129)))
     all_goals go_meet
     all_goals (first | (exact ⟨_, (false), (by first | rfl | (simp; done) | (simp [*]; done)), H', ⟨by have := HJ5.out; have := HK2.out; first | omega | exact Nat.le_refl _⟩, ⟨by repeat (first | (with_reducible first | exact HB.out | apply below_alloc | apply pw_below_drewN | apply below_drew1) | exact HB.out)⟩⟩) | (exact ⟨_, ((t327 == 7)), (by first | rfl | (simp; done) | (simp [*]; done)), H', ⟨by have := HJ5.out; have := HK2.out; first | omega | exact Nat.le_refl _⟩, ⟨by repeat (first | (with_reducible first | exact HB.out | apply below_alloc | apply pw_below_drewN | apply below_drew1) | exact HB.out)⟩⟩) | (exact ⟨_, (false), (by first | rfl | (simp; done) | (simp [*]; done)), H', ⟨by have := HJ5.out; have := HK2.out; first | omega | exact Nat.le_refl _⟩, ⟨by repeat (first | (with_reducible first | exact HB.out | apply below_alloc | apply pw_below_drewN | apply below_drew1 | refine below_set ?_ GE252.out | refine below_set ?_ GE328.out) | exact HB.out)⟩⟩))
   clear HC54
   try clear c1
   try clear c2
   try clear p2
   try clear c3
   try clear c11
   try clear c12
   try clear c13
   try clear c14
   try clear c15
   try clear c16
   try clear c17
   try clear c18
   try clear c19
   try clear c20
   try clear c21
   try clear c22
   try clear c23
   try clear c24
   try clear c25
   try clear c26
   try clear c27
   try clear c28
   try clear c29
   try clear c30
   try clear c31
   try clear c32
   try clear c33
   try clear c34
   try clear c113
   try clear c113b0
   try clear c113b1
   try clear c113b2
   try clear c115
   try clear c115b0
   try clear c115b1
   try clear c115b2
   try clear c116
   try clear c117
   try clear c117b0
   try clear c118
   try clear c118b0
   try clear c118b1
   try clear c118b2
   try clear c119
   try clear c119b0
   try clear c119b1
   try clear c120
   try clear c120b0
   try clear c120b1
   try clear c121
   try clear c122
   try clear c122b0
   try clear c122b1
   try clear c123
   try clear c130
   try clear c137
   try clear c143
   try clear c149
   try clear c149b0
   try clear c149b1
   try clear c150
   try clear c150b0
   try clear c150b1
   try clear c151
   try clear c152
   try clear c152b0
   try clear c152b1
   try clear c153
   try clear c160
   try clear c167
   try clear c173
   try clear c179
   try clear c185
   try clear c191
   try clear c191b0
   try clear c191b1
   try clear c191b2
   try clear c192
   try clear c192b0
   try clear c192b1
   try clear c193
   try clear c193b0
   try clear c193b1
   try clear c194
   try clear c195
   try clear c195b0
   try clear c195b1
   try clear c196
   try clear c203
   try clear c210
   try clear c216
   try clear c222
   try clear c222b0
   try clear c222b1
   try clear c223
   try clear c223b0
   try clear c223b1
   try clear c224
   try clear c225
   try clear c225b0
   try clear c225b1
   try clear c226
   try clear c233
   try clear c240
   try clear c246
   try clear c252
   try clear c258
   try clear c264
   try clear c264b0
   try clear c264b1
   try clear c264b2
   try clear c265
   try clear c265b0
   try clear c265b1
   try clear c266
   try clear c266b0
   try clear c266b1
   try clear c267
   try clear c268
   try clear c268b0
   try clear c268b1
   try clear c269
   try clear c276
   try clear c283
   try clear c289
   try clear c295
   try clear c295b0
   try clear c295b1
   try clear c296
   try clear c296b0
   try clear c296b1
   try clear c297
   try clear c298
   try clear c298b0
   try clear c298b1
   try clear c299
   try clear c306
   try clear c313
   try clear c319
   try clear c325
   try clear c331
   try clear c337
   try clear c343
   try clear hcz124_0
   try clear hcz124_1
   try clear hcz126_0
   try clear hcz126_1
   try clear hcz131_0
   try clear hcz131_1
   try clear hcz133_0
   try clear hcz133_1
   try clear hcz138_0
   try clear hcz138_1
   try clear hcz140_0
   try clear hcz140_1
   try clear hcz144_0
   try clear hcz144_1
   try clear hcz146_0
   try clear hcz146_1
   try clear hcz154_0
   try clear hcz154_1
   try clear hcz156_0
   try clear hcz156_1
   try clear hcz161_0
   try clear hcz161_1
   try clear hcz163_0
   try clear hcz163_1
   try clear hcz168_0
   try clear hcz168_1
   try clear hcz170_0
   try clear hcz170_1
   try clear hcz174_0
   try clear hcz174_1
   try clear hcz176_0
   try clear hcz176_1
   try clear hcz180_0
   try clear hcz180_1
   try clear hcz182_0
   try clear hcz182_1
   try clear hcz186_0
   try clear hcz186_1
   try clear hcz188_0
   try clear hcz188_1
   try clear hcz197_0
   try clear hcz197_1
   try clear hcz199_0
   try clear hcz199_1
   try clear hcz204_0
   try clear hcz204_1
   try clear hcz206_0
   try clear hcz206_1
   try clear hcz211_0
   try clear hcz211_1
   try clear hcz213_0
   try clear hcz213_1
   try clear hcz217_0
   try clear hcz217_1
   try clear hcz219_0
   try clear hcz219_1
   try clear hcz227_0
   try clear hcz227_1
   try clear hcz229_0
   try clear hcz229_1
   try clear hcz234_0
   try clear hcz234_1
   try clear hcz236_0
   try clear hcz236_1
   try clear hcz241_0
   try clear hcz241_1
   try clear hcz243_0
   try clear hcz243_1
   try clear hcz247_0
   try clear hcz247_1
   try clear hcz249_0
   try clear hcz249_1
   try clear hcz253_0
   try clear hcz253_1
   try clear hcz255_0
   try clear hcz255_1
   try clear hcz259_0
   try clear hcz259_1
   try clear hcz261_0
   try clear hcz261_1
   try clear hcz270_0
   try clear hcz270_1
   try clear hcz272_0
   try clear hcz272_1
   try clear hcz277_0
   try clear hcz277_1
   try clear hcz279_0
   try clear hcz279_1
   try clear hcz284_0
   try clear hcz284_1
   try clear hcz286_0
   try clear hcz286_1
   try clear hcz290_0
   try clear hcz290_1
   try clear hcz292_0
   try clear hcz292_1
   try clear hcz300_0
   try clear hcz300_1
   try clear hcz302_0
   try clear hcz302_1
   try clear hcz307_0
   try clear hcz307_1
   try clear hcz309_0
   try clear hcz309_1
   try clear hcz314_0
   try clear hcz314_1
   try clear hcz316_0
   try clear hcz316_1
   try clear hcz320_0
   try clear hcz320_1
   try clear hcz322_0
   try clear hcz322_1
   try clear hcz326_0
   try clear hcz326_1
   try clear hcz328_0
   try clear hcz328_1
   try clear hcz332_0
   try clear hcz332_1
   try clear hcz334_0
   try clear hcz334_1
   try clear hcz338_0
   try clear hcz338_1
   try clear hcz340_0
   try clear hcz340_1
   try clear hcz344_0
   try clear hcz344_1
   try clear hfz124_0
   try clear hfz124_1
   try clear hfz126_0
   try clear hfz126_1
   try clear hfz131_0
   try clear hfz131_1
   try clear hfz133_0
   try clear hfz133_1
   try clear hfz138_0
   try clear hfz138_1
   try clear hfz140_0
   try clear hfz140_1
   try clear hfz144_0
   try clear hfz144_1
   try clear hfz146_0
   try clear hfz146_1
   try clear hfz154_0
   try clear hfz154_1
   try clear hfz156_0
   try clear hfz156_1
   try clear hfz161_0
   try clear hfz161_1
   try clear hfz163_0
   try clear hfz163_1
   try clear hfz168_0
   try clear hfz168_1
   try clear hfz170_0
   try clear hfz170_1
   try clear hfz174_0
   try clear hfz174_1
   try clear hfz176_0
   try clear hfz176_1
   try clear hfz180_0
   try clear hfz180_1
   try clear hfz182_0
   try clear hfz182_1
   try clear hfz186_0
   try clear hfz186_1
   try clear hfz188_0
   try clear hfz188_1
   try clear hfz197_0
   try clear hfz197_1
   try clear hfz199_0
   try clear hfz199_1
   try clear hfz204_0
   try clear hfz204_1
   try clear hfz206_0
   try clear hfz206_1
   try clear hfz211_0
   try clear hfz211_1
   try clear hfz213_0
   try clear hfz213_1
   try clear hfz217_0
   try clear hfz217_1
   try clear hfz219_0
   try clear hfz219_1
   try clear hfz227_0
   try clear hfz227_1
   try clear hfz229_0
   try clear hfz229_1
   try clear hfz234_0
   try clear hfz234_1
   try clear hfz236_0
   try clear hfz236_1
   try clear hfz241_0
   try clear hfz241_1
   try clear hfz243_0
   try clear hfz243_1
   try clear hfz247_0
   try clear hfz247_1
   try clear hfz249_0
   try clear hfz249_1
   try clear hfz253_0
   try clear hfz253_1
   try clear hfz255_0
   try clear hfz255_1
   try clear hfz259_0
   try clear hfz259_1
   try clear hfz261_0
   try clear hfz261_1
   try clear hfz270_0
   try clear hfz270_1
   try clear hfz272_0
   try clear hfz272_1
   try clear hfz277_0
   try clear hfz277_1
   try clear hfz279_0
   try clear hfz279_1
   try clear hfz284_0
   try clear hfz284_1
   try clear hfz286_0
   try clear hfz286_1
   try clear hfz290_0
   try clear hfz290_1
   try clear hfz292_0
   try clear hfz292_1
   try clear hfz300_0
   try clear hfz300_1
   try clear hfz302_0
   try clear hfz302_1
   try clear hfz307_0
   try clear hfz307_1
   try clear hfz309_0
   try clear hfz309_1
   try clear hfz314_0
   try clear hfz314_1
   try clear hfz316_0
   try clear hfz316_1
   try clear hfz320_0
   try clear hfz320_1
   try clear hfz322_0
   try clear hfz322_1
   try clear hfz326_0
   try clear hfz326_1
   try clear hfz328_0
   try clear hfz328_1
   try clear hfz332_0
   try clear hfz332_1
   try clear hfz334_0
   try clear hfz334_1
   try clear hfz338_0
   try clear hfz338_1
   try clear hfz340_0
   try clear hfz340_1
   try clear hfz344_0
   try clear hfz344_1
   obtain ⟨kq, x6_53, rfl, HA, HJ53, HB⟩ := hcut
   cases kq with
   | zero => exact absurd HA.out (by simp [kotatsulaw06_DiskRefuses.j4])
   | succ kj53 =>
    have H := HA.out
    clear HA
    simp only [kotatsulaw06_DiskRefuses.j4] at H
    obtain rfl := Option.some.inj H
    go_wp2
    go_ret
    exact ⟨by first | rfl | (simp [errW_none, errW_some] <;> rfl) | (simp [*, errW_none, errW_some] <;> rfl), by repeat (first | (with_reducible first | exact HB.out | apply below_alloc | apply pw_below_drewN | apply below_drew1) | exact HB.out)⟩
/-- THE ONE PURE STATEMENT of kotatsulaw06_DiskRefuses: yours. -/
def kotatsulaw06_DiskRefuses.Pure : Prop := ∀ (a0 : Int) (l1 : List Int) (a2 : Int), (Lit.int .u8 a0).wf = true → l1.length ≤ maxLen → l1.length * 1 ≤ 140737488351232 → (∀ x ∈ l1, (Lit.int .u8 x).wf = true) → (Lit.int .u8 a2).wf = true → ∃ k, kotatsulaw06_DiskRefuses.f k a0 l1 a2 = some true
theorem kotatsulaw06_DiskRefuses.walk (P : kotatsulaw06_DiskRefuses.Pure) (a0 : Int) (a1 : Option Addr) (len1 cap1 : Nat) (z1 : List Int) (a2 : Int) (w : World) (w0 : (Lit.int .u8 a0).wf = true) (w1 : (a1 = none ∧ len1 = 0 ∧ cap1 = 0 ∧ z1 = []) ∨ ∃ x, a1 = some x ∧ len1 ≤ cap1 ∧ cap1 ≤ maxLen ∧ z1.length = cap1 ∧ (∀ i, i < z1.length → w.cell? (x.add i) = some (.int .u8 (z1.getD i 0))) ∧ ∀ n ∈ z1, (Lit.int .u8 n).wf = true) (y1 : len1 * 1 ≤ 140737488351232) (w2 : (Lit.int .u8 a2).wf = true) :
  Calls Try.prog 7 #[.int .u8 a0, .slice a1 len1 cap1, .int .u8 a2] w fun e w' => e = .returned (.bool true) ∧ Below w.heap.size w w' := by
 obtain ⟨l1, rfl, hr1, hm1, hw1, hc1⟩ := ReadsInt.ofRowC w1
 obtain ⟨k, h⟩ := P a0 l1 a2 w0 hm1 y1 hw1 w2
 refine (kotatsulaw06_DiskRefuses.calls k a0 _ _ l1 a2 true w (Kd.C_of_reads (d := (0 : Int)) (h1 := fun _ => rfl) hr1) hc1 h).mono ?_
 rintro e w' ⟨rfl, hd⟩
 exact ⟨rfl, hd⟩
end Go.Proofs.Ythnfmoaiejaheaa.PDiskRefuses
