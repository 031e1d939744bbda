-- made by a program of this repo (wip/patch_print.py); not trusted: Lean checks it
import Derived.Test.YthnfmoaiejaheaaPDiskFormsx0
import Derived.Test.YthnfmoaiejaheaaPDiskFormsx1
import Derived.Test.YthnfmoaiejaheaaPDiskFormsx3
-- squeezed
namespace Go.Proofs.Ythnfmoaiejaheaa.PDiskForms
open Go.RowKit Go.Proofs.YthnfmoaiejaheaaW.PrintWords Go.Proofs.YthnfmoaiejaheaaW.PrintLast Go.Proofs.YthnfmoaiejaheaaW.PrintMore
attribute [local go_sem] max2_int min2_int max_two min_two max_three min_three max_four min_four   -- for this text's walks alone
set_option linter.unusedVariables false
set_option linter.unusedSimpArgs false

/-! ### kotatsulaw06_DiskForms: function 4 -/
mutual
def kotatsulaw06_DiskForms.j0 : Nat → Int → List Int → Int → Int → Int → Option (Bool)
 | 0, _, _, _, _, _ => none
 | k + 1, x1, x2, x3, x10, x147000 => kotatsulaw06_DiskForms.l0 k x2 x3 x10 (wrap64 (1 + (wrap64 (Int.tmod x1 3)))) 0 x147000 ([] : List (List Int))
def kotatsulaw06_DiskForms.l0 : Nat → List Int → Int → Int → Int → Int → Int → List (List Int) → Option (Bool)
 | 0, _, _, _, _, _, _, _ => none
 | k + 1, x2, x3, x10, x31, x32, x147000, x147001 => if x32 < x31 then (if 0 ≤ x10 then (if (x10 : Int).toNat ≤ 281474976710656 then (kotatsulaw06_DiskForms.l1 k x2 x3 x10 x32 (List.replicate (x10 : Int).toNat 0) x31 x32 x2 (x2.length : Int) 0 x147000 x147001) else (none)) else (none)) else ((disk_Set_Bytes.f k x147000 x147001).bind fun t155 => ((kotatsuref01_Join.f k x147001).bind fun t158 => (if x147000 = 2 then ((some (([70, 68, 83, 26] : List Int) : List Int)).bind fun y161 => (if y161.length + 0 < 140737488355328 then (if 11 ≤ 281474976710656 then ((kotatsuref01_Join.f k (([(y161), (([((x147001.length : Int)) % 256] : List Int)), (List.replicate 11 0), t158] : List (List Int)))).bind fun t176 => (kotatsulaw06_DiskForms.j3 k t155 t176 x147000 x147001)) else (none)) else (none))) else (kotatsulaw06_DiskForms.j3 k t155 t158 x147000 x147001))))
def kotatsulaw06_DiskForms.l1 : Nat → List Int → Int → Int → Int → List Int → Int → Int → List Int → Int → Int → Int → List (List Int) → Option (Bool)
 | 0, _, _, _, _, _, _, _, _, _, _, _, _ => none
 | k + 1, x2, x3, x10, x11, x12, x31, x32, x37, x38, x39, x147000, x147001 => if x39 < x38 then (if 0 ≤ x39 then (if x39 < (x37.length : Int) then (if x39 < 9 then (if ((x10) % 4294967296) = 0 then (none) else (if 0 ≤ (wrap64 (Int.tmod (rd x37 x39) ((x10) % 4294967296))) then (if (wrap64 (Int.tmod (rd x37 x39) ((x10) % 4294967296))) < (x12.length : Int) then (kotatsulaw06_DiskForms.l1 k x2 x3 x10 x11 (x12.set ((wrap64 (Int.tmod (rd x37 x39) ((x10) % 4294967296))) : Int).toNat ((x3 + ((x11) % 256)) % 256)) x31 x32 x37 x38 (wrap64 (x39 + 1)) x147000 x147001) else (none)) else (none))) else (kotatsulaw06_DiskForms.l1 k x2 x3 x10 x11 x12 x31 x32 x37 x38 (wrap64 (x39 + 1)) x147000 x147001)) else (none)) else (none)) else (if x147001.length < 5864062014805 then (kotatsulaw06_DiskForms.l0 k x2 x3 x10 x31 (wrap64 (x32 + 1)) x147000 (x147001 ++ [x12])) else (none))
def kotatsulaw06_DiskForms.j3 : Nat → List Int → List Int → Int → List (List Int) → Option (Bool)
 | 0, _, _, _, _ => none
 | k + 1, x15, x16, x147000, x147001 => if x147000 = 1 then (if 4 ≤ (x15.length : Int) then (kotatsulaw06_DiskForms.j4 k x15 x16 ((strOfNums (x15.take 4)).toList == ([70, 68, 83, 26] : List UInt8)) x147000 x147001) else (none)) else (kotatsulaw06_DiskForms.j4 k x15 x16 false x147000 x147001)
def kotatsulaw06_DiskForms.j4 : Nat → List Int → List Int → Bool → Int → List (List Int) → Option (Bool)
 | 0, _, _, _, _, _ => none
 | k + 1, x15, x16, x92, x147000, x147001 => if x92 = true then (some true) else ((disk_Parse.f k x15).bind fun bt184 => ((disk_Set_Right.f k x147000 x147001).bind fun t190 => (if t190 = true then ((kotatsuref01_Same.f k x15 x16).bind fun t191 => (if t191 = true then (if bt184.2.2 = 0 then ((disk_Same.f bt184.1 bt184.2.1 x147000 x147001).bind fun t192 => (some t192)) else (some false)) else (some false))) else (some false))))
end
def kotatsulaw06_DiskForms.f (k : Nat) (a0 : Int) (a1 : Int) (l2 : List Int) (a3 : Int) : Option (Bool) := (kotatsulaw06_awake.f k).bind fun t145 => (if t145 = true then (if ((1 + (Int.tmod a0 3)) % 256) = 3 then (kotatsulaw06_DiskForms.j0 k a1 l2 a3 65536 ((1 + (Int.tmod a0 3)) % 256)) else (kotatsulaw06_DiskForms.j0 k a1 l2 a3 65500 ((1 + (Int.tmod a0 3)) % 256))) else (some false))
def kotatsulaw06_DiskForms.T22 : Bool × List (List Nat × List Nat) := (true, [([], []), ([0], [0]), ([], []), ([2], [2]), ([3], [3]), ([4], [4]), ([5], [5]), ([], []), ([], []), ([1, 6, 7, 8], [1, 6, 7, 8]), ([9], [9]), ([10, 10, 0, 1, 2, 3, 4, 5, 6, 7, 8, 9, 10], [8, 10])])
def kotatsulaw06_DiskForms.B22 : List Nat := [0, 1, 0, 4, 12, 28, 60, 0, 0, 511, 1023, 2047]
theorem kotatsulaw06_DiskForms.tab22 : rtab .any (opsOf Try.f4 22) = kotatsulaw06_DiskForms.T22 := by kernel_rfl
theorem kotatsulaw06_DiskForms.bits22 : waitsOk kotatsulaw06_DiskForms.T22.2 kotatsulaw06_DiskForms.B22 = true := by kernel_rfl
/-! ### []byte("..") of a constant, in a region that draws: a literal's row, and behind it a conversion to its own type, which marks the row: what comes of it is only read -/
theorem markR_run {P : Program} {W : World} {base base2 : Nat} {e t : TypeId} {ok : Nat → Prop} {v : Value} {xs : List Int} (HO : Kd.R (Kd.int .u8) e W base ok v xs) (hp : 0 < xs.length) (ht : P.underlying t = some (.slice e)) (he : P.underlying e = some (.int .u8)) :
  ∃ W1, (convert t t v).run P W = .ok v W1 ∧ Kd.V (Kd.int .u8) e W1 base2 ok v xs ∧ W.grownBy W1 v.ownBlock := by
 have HR := HO
 obtain ⟨hok, inner, hown, hr⟩ := HO
 rcases hown.2 with ⟨_, h0⟩ | ⟨g, cap, cur, rfl, hg, hh, hn, hc, hsz, htk⟩
 ·omega
 have hg1 : g < W.heap.size := (Array.getElem?_eq_some_iff.1 hh).1
 have hsh : W.shape? g = some (e, cur.size) := by simp [World.shape?, hh]
 have hF : (W.freeze ⟨g, cur.size, none⟩ 1).heap[g]? = some (.cells cur e (cur.size, cur.size + 1)) := by
  unfold World.freeze
  rw [if_neg (by decide)]
  simp [Array.getElem?_modify, hh]
 have hO : ∀ k, k ≠ g → (W.freeze ⟨g, cur.size, none⟩ 1).heap[k]? = W.heap[k]? := by
  intro k hk
  unfold World.freeze
  rw [if_neg (by decide)]
  simp [Array.getElem?_modify, Ne.symm hk]
 have hS : (W.freeze ⟨g, cur.size, none⟩ 1).heap.size = W.heap.size := by
  unfold World.freeze
  rw [if_neg (by decide)]
  simp
 refine ⟨W.freeze ⟨g, cur.size, none⟩ 1, ?_, ⟨some ⟨g, 0, none⟩, cap, rfl, hn, ?_⟩, ?_⟩
 ·simp [convert, run_underlying ht, run_underlying he, markStringish, hsh]
 ·intro W' hW'
  have hb := (hW' g (hok g rfl) (by rw [hS]; exact hg1)).trans hF
  have hm := (Kd.R_reads' HR).2.2
  refine Kd.C_of_reads (enc := Value.int .u8) (d := (0 : Int)) ⟨rfl, by unfold maxLen at hc; omega, fun _ => ⟨_, rfl, fun j hj => ?_⟩⟩
  obtain ⟨ad, hae, hcell⟩ := Kd.at_int hm (j : Int) (by omega) (by omega)
  injection hae with hae
  subst hae
  rw [Int.toNat_natCast, add_plain] at hcell
  rw [add_plain]
  have h1 : W'.cell? ⟨g, j, none⟩ = cur[j]? := by simp [World.cell?, hb]
  have h2 : W.cell? ⟨g, j, none⟩ = cur[j]? := by simp [World.cell?, hh]
  rw [h1, ← h2, hcell]
  simp [rd, rdOf, List.getD_eq_getElem?_getD]
 ·exact ⟨by unfold World.freeze; rw [if_neg (by decide)], by unfold World.freeze; rw [if_neg (by decide)], by unfold World.freeze; rw [if_neg (by decide)], by rw [hS]; exact Nat.le_refl _, fun k _ hne => hO k (fun e => hne (by rw [e]; rfl))⟩
theorem markR_step {P : Program} {w0 W : World} {ops : Array Oper} {o : Oper} {a : Act} {Kc : Act → World → Prop} {Q : Exit → Act → World → Prop} (base e : Nat) (hw : Region.wanted o (yielded ops a.tmps) = true) (t : TypeId) (x : Operand) (ho : o.op = .convert t t x) (ht : P.underlying t = some (.slice e)) (he : P.underlying e = some (.int .u8))
  (v : Value) (xs : List Int) (ok : Nat → Prop) (hx : a.eval x = v) (HO : Kd.R (Kd.int .u8) e W base ok v xs) (hp : 0 < xs.length) (HB : Below base w0 W) (hbase : base ≤ W.heap.size)
  (h : ∀ v1 w1, Kd.V (Kd.int .u8) e w1 base ok v1 xs → Below base w0 w1 → W.grownBy w1 v.ownBlock → (v1.ownBlock = v.ownBlock ∨ ∃ b, v1.ownBlock = some b ∧ W.heap.size ≤ b) → Kc (a.put o.dst v1) w1) :
  if Region.wanted o (yielded ops a.tmps) = true then Oper.wp P o a W Kc Q else Kc (a.put o.dst undef) W := by
 rw [if_pos hw]
 obtain ⟨w1, hrun, hV, hg⟩ := markR_run (base2 := base) HO hp ht he
 unfold Oper.wp
 simp [execOp, ho, hx, hrun, Result.andThen]
 exact h v w1 hV (HB.grown hg hbase (Kd.R_base HO)) hg (.inl rfl)
set_option maxHeartbeats 8000000 in
set_option maxRecDepth 100000 in
theorem kotatsulaw06_DiskForms.calls (k : Nat) (a0 : Int) (a1 : Int) (A2 : Option Addr) (c2 : Nat) (l2 : List Int) (a3 : Int) (r : Bool) (w : World) (hr2 : Kd.C (Kd.int .u32) w A2 l2.length l2) (hc2 : l2.length ≤ c2) (h : kotatsulaw06_DiskForms.f k a0 a1 l2 a3 = some r) :
  Calls Try.prog 4 #[.int .u8 a0, .int .u8 a1, .slice A2 l2.length c2, .int .u8 a3] w fun e w' => e = .returned (.bool r) ∧ Below w.heap.size w w' := by
 have hu30 := Try.underlying30
 have HR2 := Aside0.mk hr2
 have HC2 := Aside0.mk hc2
 clear hr2 hc2
 have HB := Aside0.mk (Below.refl w.heap.size w)
 have H : ((kotatsulaw06_awake.f k).bind fun t145 => (if t145 = true then (if ((1 + (Int.tmod a0 3)) % 256) = 3 then (kotatsulaw06_DiskForms.j0 k a1 l2 a3 65536 ((1 + (Int.tmod a0 3)) % 256)) else (kotatsulaw06_DiskForms.j0 k a1 l2 a3 65500 ((1 + (Int.tmod a0 3)) % 256))) else (some false))) = some r := h
 clear h
 replace H := Option.bind_eq_some_iff.mp H
 obtain ⟨t145, A50, H⟩ := H
 replace H : (if t145 = true then (if ((1 + (Int.tmod a0 3)) % 256) = 3 then (kotatsulaw06_DiskForms.j0 k a1 l2 a3 65536 ((1 + (Int.tmod a0 3)) % 256)) else (kotatsulaw06_DiskForms.j0 k a1 l2 a3 65500 ((1 + (Int.tmod a0 3)) % 256))) else (some false)) = some r := H
 have A5 := Aside0.mk A50
 clear A50
 by_cases c6 : t145 = true
 ·subst c6
  have H1 : (if ((1 + (Int.tmod a0 3)) % 256) = 3 then (kotatsulaw06_DiskForms.j0 k a1 l2 a3 65536 ((1 + (Int.tmod a0 3)) % 256)) else (kotatsulaw06_DiskForms.j0 k a1 l2 a3 65500 ((1 + (Int.tmod a0 3)) % 256))) = some r := by rw [if_pos rfl] at H; exact H
  clear H
  have H := H1
  clear H1
  have HC7 := Aside0.mk H
  clear H
  go_enter Try.func4, Try.ntmps4
  go_upto_if 27 with (first | ((with_reducible refine gate_callee (f := 9) rfl ?_); refine goesL_ (some 19) rfl rfl Try.func9 (by kernel_rfl) rfl #[] rfl (by (try simp only [List.map_toArray, List.map_cons, List.map_nil]); first | done | rfl | (simp only [List.length_drop, List.length_take]; rfl)) ?_; (with_reducible refine (kotatsulaw06_awake.calls k  true _ A5.out).mono ?_); rintro e w8 ⟨rfl, hb⟩; refine ⟨_, rfl, ?_⟩; have n0_ := Aside0.mk (below_step (by repeat (first | (with_reducible first | exact HB.out | apply below_alloc | apply pw_below_drewN | apply below_drew1) | exact HB.out)) hb); clear HB; have HB := n0_; clear n0_; (try clear hb); (try clear hb2); (try clear hk); (try clear hi)) | ((with_reducible refine gate_dst (N := 9) rfl ?_); refine box_event ?hg (N := 9) ?hd (cs := #[.int .u8 0, .slice none 0 0]) (t := 30) ?hr ?_; (case hd => rfl); (case hg => rfl); (case hr => first | (go_simp; done) | (go_simp; rfl)); intro gb146 hg w9 hbox hb; have n0_ := Aside0.mk (below_step (by repeat (first | (with_reducible first | exact HB.out | apply below_alloc | apply pw_below_drewN | apply below_drew1) | exact HB.out)) hb); have n1_ := Aside0.mk (hbox); have n2_ := Aside0.mk ((by rw [hg]; exact (below_size (by repeat (first | (with_reducible first | exact HB.out | apply below_alloc | apply pw_below_drewN | apply below_drew1) | exact HB.out))) : w.heap.size ≤ gb146)); have n3_ := Aside0.mk ((by rw [hg]; exact (below_size (by repeat (first | (with_reducible first | exact HB.out | apply below_alloc | apply pw_below_drewN | apply below_drew1) | exact HB.out))) : w.heap.size ≤ gb146)); clear HB; have HB := n0_; have BK146 := n1_; have GW146 := n2_; have GE146 := n3_; clear n0_ n1_ n2_ n3_; clear hb hbox hg; have hcz10_0 : w9.cell? ⟨gb146, 0, none⟩ = some (.int .u8 0) := (blk_cell BK146.out 0).trans rfl; have hcz10_1 : w9.cell? ⟨gb146, 1, none⟩ = some (.slice none 0 0) := (blk_cell BK146.out 1).trans rfl; have hfz10_0 := blk_frozen BK146.out 0; have hfz10_1 := blk_frozen BK146.out 1))
  (try simp only [Act.put, List.setIfInBounds_toArray, List.set_cons_zero, List.set_cons_succ])
  go_cut [10] (fun v10 wc => ∃ (kq : Nat) (x10_6 : Int), v10 = .int .i64 x10_6 ∧ Aside0 (kotatsulaw06_DiskForms.j0 kq a1 l2 a3 x10_6 ((1 + (Int.tmod a0 3)) % 256) = some r) ∧ Aside0 (kq ≤ k) ∧ Aside0 (wc.heap[gb146]? = some (.cells #[.int .u8 ((1 + (Int.tmod a0 3)) % 256), (.slice none 0 0)] 30 (0, 0))) ∧ Aside0 (Below w.heap.size w wc))
  case first =>
   have H := HC7.out
   clear HC7
   by_cases c11 : ((1 + (Int.tmod a0 3)) % 256) = 3
   ·rw [if_pos c11] at H
    have c11b0 : (((1 + (Int.tmod a0 3)) % 256) == 3) = true := beq_iff_eq.mpr c11
    have c11b1 : (((1 + (Int.tmod a0 3)) % 256) != 3) = false := bne_eq_false_iff_eq.mpr c11
    clear c11
    (first | rw [c11b0] | (simp only [i64_w, i32_w]; rw [c11b0]) | skip)
    have H' := Aside0.mk H
    clear H
    go_wp2
    go_meet
    case rel => exact ⟨_, (65536), (by first | rfl | (simp; done) | (simp [*]; done)), H', ⟨by first | omega | exact Nat.le_refl _⟩, ⟨by (with_reducible repeat (first | refine blk_drewN ?_ _ | refine blk_drew ?_ | refine blk_alloc ?_ _)); refine blk_put (cs := #[.int .u8 ((1 + (Int.tmod a0 3)) % 256), .slice none 0 0]) ?_ 1 _ rfl; (with_reducible repeat (first | refine blk_drewN ?_ _ | refine blk_drew ?_ | refine blk_alloc ?_ _)); refine blk_put (cs := #[.int .u8 0, .slice none 0 0]) ?_ 0 _ rfl; (with_reducible repeat (first | refine blk_drewN ?_ _ | refine blk_drew ?_ | refine blk_alloc ?_ _)); exact BK146.out⟩, ⟨by repeat (first | (with_reducible first | exact HB.out | apply below_alloc | apply pw_below_drewN | apply below_drew1 | refine below_set ?_ GE146.out) | exact HB.out)⟩⟩
   ·rw [if_neg c11] at H
    have c11b0 : (((1 + (Int.tmod a0 3)) % 256) == 3) = false := beq_eq_false_iff_ne.mpr c11
    have c11b1 : (((1 + (Int.tmod a0 3)) % 256) != 3) = true := bne_iff_ne.mpr c11
    (first | rw [c11b0] | (simp only [i64_w, i32_w]; rw [c11b0]) | skip)
    have H' := Aside0.mk H
    clear H
    go_wp2
    go_meet
    case rel => exact ⟨_, (65500), (by first | rfl | (simp; done) | (simp [*]; done)), H', ⟨by first | omega | exact Nat.le_refl _⟩, ⟨by (with_reducible repeat (first | refine blk_drewN ?_ _ | refine blk_drew ?_ | refine blk_alloc ?_ _)); refine blk_put (cs := #[.int .u8 ((1 + (Int.tmod a0 3)) % 256), .slice none 0 0]) ?_ 1 _ rfl; (with_reducible repeat (first | refine blk_drewN ?_ _ | refine blk_drew ?_ | refine blk_alloc ?_ _)); refine blk_put (cs := #[.int .u8 0, .slice none 0 0]) ?_ 0 _ rfl; (with_reducible repeat (first | refine blk_drewN ?_ _ | refine blk_drew ?_ | refine blk_alloc ?_ _)); exact BK146.out⟩, ⟨by repeat (first | (with_reducible first | exact HB.out | apply below_alloc | apply pw_below_drewN | apply below_drew1 | refine below_set ?_ GE146.out) | exact HB.out)⟩⟩
  case rest =>
   clear HC7
   try clear c1
   try clear c2
   try clear p2
   try clear c4
   try clear c6
   try clear c9
   try clear c11
   try clear c11b0
   try clear c11b1
   try clear hcz10_0
   try clear hcz10_1
   try clear hfz10_0
   try clear hfz10_1
   obtain ⟨kq, x10_6, rfl, HA, HJ6, BK146, HB⟩ := hcut
   cases kq with
   | zero => exact absurd HA.out (by simp [kotatsulaw06_DiskForms.j0])
   | succ kj6 =>
    have H := HA.out
    clear HA
    simp only [kotatsulaw06_DiskForms.j0] at H
    have H' := Aside0.mk H
    clear H
    go_wp2
    go_loopg [32] kj6 (fun kq v32 w' => ∃ (x32_2 : Int) (x147001_2 : List (List Int)) (u147001 : Value), v32 = .int .i64 x32_2 ∧ Aside0 (kotatsulaw06_DiskForms.l0 kq l2 a3 x10_6 (wrap64 (1 + (wrap64 (Int.tmod a1 3)))) x32_2 ((1 + (Int.tmod a0 3)) % 256) x147001_2 = some r) ∧ Aside0 (kq ≤ kj6) ∧ Aside0 (Kd.N (Kd.slice 5 (Kd.int .u8)) 22 w' w.heap.size (fun k_ => k_ ≠ gb146) u147001 x147001_2) ∧ Aside0 (w'.heap[gb146]? = some (.cells #[.int .u8 ((1 + (Int.tmod a0 3)) % 256), u147001] 30 (0, 0))) ∧ Aside0 (Below w.heap.size w w'))
    case atStart => exact ⟨(0), (([] : List (List Int))), (.slice none 0 0), (by first | rfl | (simp; done) | (simp [*]; done)), H', ⟨Nat.le_refl _⟩, ⟨by first | exact Kd.S_nil _ _ _ _ _ | exact Kd.N_nil _ _ _ _ _ | exact Kd.V_nil _ _ _ _ _ | exact Kd.Q_nil _ _ _ _ _ | exact Kd.R_nil _ _ _ _ _⟩, ⟨by (with_reducible repeat (first | refine blk_drewN ?_ _ | refine blk_drew ?_ | refine blk_alloc ?_ _)); exact BK146.out⟩, ⟨by repeat (first | (with_reducible first | exact HB.out | apply below_alloc | apply pw_below_drewN | apply below_drew1 | refine below_set ?_ GE146.out) | exact HB.out)⟩⟩
    case round =>
     clear H'
     try clear c1
     try clear c2
     try clear p2
     try clear c4
     try clear c6
     try clear p6
     try clear c9
     try clear c11
     try clear c11b0
     try clear c11b1
     try clear hcz10_0
     try clear hcz10_1
     try clear hfz10_0
     try clear hfz10_1
     try clear p2
     obtain ⟨x32_2, x147001_2, u147001, rfl, HA, HK2, HO_147001, BK146, HB⟩ := hrel
     cases gk with
     | zero => exact absurd HA.out (by simp [kotatsulaw06_DiskForms.l0])
     | succ k2 =>
      have H := HA.out
      clear HA
      simp only [kotatsulaw06_DiskForms.l0] at H
      by_cases c12 : x32_2 < (wrap64 (1 + (wrap64 (Int.tmod a1 3))))
      ·rw [if_pos c12] at H
       have c12b0 : decide (x32_2 < (wrap64 (1 + (wrap64 (Int.tmod a1 3))))) = true := decide_eq_true c12
       clear c12
       by_cases c13 : 0 ≤ x10_6
       ·rw [if_pos c13] at H
        have c13b0 := eq_true c13
        have c13b1 : decide (0 ≤ x10_6) = true := decide_eq_true c13
        clear c13
        by_cases c14 : (x10_6 : Int).toNat ≤ 281474976710656
        ·rw [if_pos c14] at H
         have c14b0 := eq_true c14
         have c14b1 : decide ((x10_6 : Int).toNat ≤ 281474976710656) = true := decide_eq_true c14
         clear c14
         obtain ⟨y147, hy147⟩ : ∃ y_ : List Int, y_ = (List.replicate (x10_6 : Int).toNat 0) := ⟨_, rfl⟩
         replace H : (kotatsulaw06_DiskForms.l1 k2 l2 a3 x10_6 x32_2 y147 (wrap64 (1 + (wrap64 (Int.tmod a1 3)))) x32_2 l2 (l2.length : Int) 0 ((1 + (Int.tmod a0 3)) % 256) x147001_2) = some r := by first | (rw [hy147]; with_reducible exact H) | (have H2_ := (Option.bind_some _ _).symm.trans H; rw [hy147]; with_reducible exact H2_) | (have H2_ := (Option.bind_some _ _).symm.trans H; with_reducible exact H2_) | with_reducible exact H | (rw [hy147]; exact H) | exact H
         have Ny147 := Aside0.mk hy147
         clear hy147
         have H' := Aside0.mk H
         clear H
         go_wp2_with (first | ((with_reducible refine gate_dst (N := 36) rfl ?_); refine Kd.R_make (Kd.int .u8) _ 5 rfl (N := 36) rfl 22 _ _ rfl x10_6 rfl rfl Try.underlying22 (.int .u8 0) 1 info5 rfl (by decide) (by omega) 0 (ok := fun _ => True) (okp := fun _ => True) rfl (fun _ hk => hk) trivial (of_decide_eq_true (by first | (with_reducible assumption) | assumption)) (Nat.le_trans (Nat.mul_le_mul_right _ (of_decide_eq_true (by first | (with_reducible assumption) | assumption) : x10_6.toNat ≤ 281474976710656)) (by omega)) (Below.refl _ _) (Nat.le_refl _) ?_; intro v148 w15 ho16 hb hg_ hnew_; clear hg_ hnew_; (first | rw [← Ny147.out] at ho16 | (simp only [Int.reduceToNat] at ho16; rw [← Ny147.out] at ho16)); have n0_ := Aside0.mk (Kd.N_elder' (by (with_reducible repeat (first | apply Kd.N_alloc | apply Kd.N_drewN | apply Kd.N_drew)); exact HO_147001.out) (Kd.R_base ho16) hb); have n1_ := Aside0.mk (Kd.R_lower ho16 (below_size (by repeat (first | (with_reducible first | exact HB.out | apply below_alloc | apply pw_below_drewN | apply below_drew1 | refine below_set ?_ GE146.out) | exact HB.out)))); have n2_ := Aside0.mk (blk_below (g := gb146) (o := .cells #[.int .u8 ((1 + (Int.tmod a0 3)) % 256), u147001] 30 (0, 0)) (by (with_reducible repeat (first | refine blk_drewN ?_ _ | refine blk_drew ?_ | refine blk_alloc ?_ _)); exact BK146.out) hb); have n3_ := Aside0.mk (below_step (by repeat (first | (with_reducible first | exact HB.out | apply below_alloc | apply pw_below_drewN | apply below_drew1 | refine below_set ?_ GE146.out) | exact HB.out)) hb); clear HO_147001; clear BK146; clear HB; have HO_147001 := n0_; have HO149 := n1_; have BK146 := n2_; have HB := n3_; clear n0_ n1_ n2_ n3_; clear hb ho16))
         go_loopg [39] k2 (fun kq v39 w' => ∃ (x12_3 : List Int) (x39_3 : Int), v39 = .int .i64 x39_3 ∧ Aside0 (kotatsulaw06_DiskForms.l1 kq l2 a3 x10_6 x32_2 x12_3 (wrap64 (1 + (wrap64 (Int.tmod a1 3)))) x32_2 l2 (l2.length : Int) x39_3 ((1 + (Int.tmod a0 3)) % 256) x147001_2 = some r) ∧ Aside0 (kq ≤ k2) ∧ Aside0 (Kd.R (Kd.int .u8) 5 w' w.heap.size (fun _ => True) v148 x12_3) ∧ Aside0 (Kd.N (Kd.slice 5 (Kd.int .u8)) 22 w' w.heap.size (fun k_ => some k_ ≠ (v148 : Value).ownBlock ∧ k_ ≠ gb146) u147001 x147001_2) ∧ Aside0 (w'.heap[gb146]? = some (.cells #[.int .u8 ((1 + (Int.tmod a0 3)) % 256), u147001] 30 (0, 0))) ∧ Aside0 (Below w.heap.size w w'))
         case atStart => exact ⟨(y147), (0), (by first | rfl | (simp; done) | (simp [*]; done)), H', ⟨Nat.le_refl _⟩, ⟨by (with_reducible repeat (first | apply Kd.R_alloc | apply Kd.R_drewN | apply Kd.R_drew)); exact HO149.out⟩, ⟨by (with_reducible repeat (first | apply Kd.N_alloc | apply Kd.N_drewN | apply Kd.N_drew)); exact Kd.N_mono HO_147001.out (fun _ hk => ⟨hk.2, hk.1⟩)⟩, ⟨by (with_reducible repeat (first | refine blk_drewN ?_ _ | refine blk_drew ?_ | refine blk_alloc ?_ _)); exact BK146.out⟩, ⟨by repeat (first | (with_reducible first | exact HB.out | apply below_alloc | apply pw_below_drewN | apply below_drew1 | refine below_set ?_ GE146.out) | exact HB.out)⟩⟩
         case round =>
          clear H'
          try clear c1
          try clear c2
          try clear p2
          try clear c4
          try clear c6
          try clear p6
          try clear c9
          try clear c11
          try clear c11b0
          try clear c11b1
          try clear c12
          try clear c12b0
          try clear c13
          try clear c13b0
          try clear c13b1
          try clear c14
          try clear c14b0
          try clear c14b1
          try clear hcz10_0
          try clear hcz10_1
          try clear hfz10_0
          try clear hfz10_1
          try clear p2
          try clear p6
          obtain ⟨x12_3, x39_3, rfl, HA, HK3, HO_12, HO_147001, BK146, HB⟩ := hrel
          cases gk with
          | zero => exact absurd HA.out (by simp [kotatsulaw06_DiskForms.l1])
          | succ k3 =>
           have H := HA.out
           clear HA
           simp only [kotatsulaw06_DiskForms.l1] at H
           by_cases c17 : x39_3 < (l2.length : Int)
           ·rw [if_pos c17] at H
            have c17b0 : decide (x39_3 < (l2.length : Int)) = true := decide_eq_true c17
            clear c17
            by_cases c18 : 0 ≤ x39_3
            ·rw [if_pos c18] at H
             have c18b0 : decide (0 ≤ x39_3) = true := decide_eq_true c18
             clear c18
             by_cases c19 : x39_3 < (l2.length : Int)
             ·rw [if_pos c19] at H
              have c19b0 : decide (x39_3 < (l2.length : Int)) = true := decide_eq_true c19
              clear c19
              by_cases c20 : x39_3 < 9
              ·rw [if_pos c20] at H
               have c20b0 : decide (x39_3 < 9) = true := decide_eq_true c20
               clear c20
               by_cases c21 : ((x10_6) % 4294967296) = 0
               ·rw [if_pos c21] at H
                exact absurd H (by simp)
               ·rw [if_neg c21] at H
                have c21b0 : (((x10_6) % 4294967296) == 0) = false := beq_eq_false_iff_ne.mpr c21
                have c21b1 : (((x10_6) % 4294967296) != 0) = true := bne_iff_ne.mpr c21
                obtain ⟨ji22, hji22⟩ : ∃ j_ : Int, (wrap64 (Int.tmod (rd l2 x39_3) ((x10_6) % 4294967296))) = j_ := ⟨_, rfl⟩
                replace H : (if 0 ≤ (ji22) then (if (ji22) < (x12_3.length : Int) then (kotatsulaw06_DiskForms.l1 k3 l2 a3 x10_6 x32_2 (x12_3.set ((ji22) : Int).toNat ((a3 + ((x32_2) % 256)) % 256)) (wrap64 (1 + (wrap64 (Int.tmod a1 3)))) x32_2 l2 (l2.length : Int) (wrap64 (x39_3 + 1)) ((1 + (Int.tmod a0 3)) % 256) x147001_2) else (none)) else (none)) = some r := by first | (rw [hji22] at H; exact H) | (simp only [hji22] at H ⊢; exact H)
                have hji22w : (IntKind.i64.wrap (Int.tmod (rd l2 x39_3) ((x10_6) % 4294967296))) = ji22 := (i64_w _).trans hji22
                by_cases c23 : 0 ≤ (ji22)
                ·rw [if_pos c23] at H
                 have c23b0 : decide (0 ≤ (ji22)) = true := decide_eq_true c23
                 clear c23
                 by_cases c24 : (ji22) < (x12_3.length : Int)
                 ·rw [if_pos c24] at H
                  have c24b0 : decide ((ji22) < (x12_3.length : Int)) = true := decide_eq_true c24
                  clear c24
                  obtain ⟨y151, hy151⟩ : ∃ y_ : List Int, y_ = (x12_3.set ((ji22) : Int).toNat ((a3 + ((x32_2) % 256)) % 256)) := ⟨_, rfl⟩
                  replace H : (kotatsulaw06_DiskForms.l1 k3 l2 a3 x10_6 x32_2 y151 (wrap64 (1 + (wrap64 (Int.tmod a1 3)))) x32_2 l2 (l2.length : Int) (wrap64 (x39_3 + 1)) ((1 + (Int.tmod a0 3)) % 256) x147001_2) = some r := by first | (rw [hy151]; with_reducible exact H) | (have H2_ := (Option.bind_some _ _).symm.trans H; rw [hy151]; with_reducible exact H2_) | (have H2_ := (Option.bind_some _ _).symm.trans H; with_reducible exact H2_) | with_reducible exact H | (rw [hy151]; exact H) | exact H
                  have Ny151 := Aside0.mk hy151
                  clear hy151
                  have H' := Aside0.mk H
                  clear H
                  have p150 : 0 ≤ (x39_3 : Int) := of_decide_eq_true (by first | (with_reducible assumption) | assumption)
                  have q150 : x39_3 < (l2.length : Int) := of_decide_eq_true (by first | (with_reducible assumption) | assumption)
                  obtain ⟨ad150, e150, hx150_0⟩ := Kd.at_int HR2.out x39_3 p150 q150
                  cases e150
                  replace hx150_0 := (HB.out.cell (World.block_lt_of_cell? w _ hx150_0)).trans hx150_0
                  replace p150 := eq_true p150
                  replace q150 := eq_true q150
                  have p25 : 0 ≤ ((ji22) : Int) := of_decide_eq_true (by first | (with_reducible assumption) | assumption)
                  have q25 : ((ji22) : Int) < ((x12_3.length : Int) : Int) := of_decide_eq_true (by first | (with_reducible assumption) | assumption)
                  obtain ⟨go25, co25, eo25, gb25, gl25, cl25, HG25⟩ := Kd.R_form HO_12.out (by omega)
                  (first | cases eo25 | (injection eo25 with ea_ en_ ec_; (first | subst ea_ | (injection ea_ with ea_; subst ea_)); subst ec_; clear en_))
                  have GB25 := Aside0.mk gb25
                  have GG25 := Aside0.mk HG25
                  clear gb25 gl25 HG25
                  obtain ⟨hx25_0, hf25_0⟩ := Kd.R_celln 0 HO_12.out ((ji22) : Int) p25 q25
                  replace p25 := eq_true p25
                  replace q25 := eq_true q25
                  have HP26 := Kd.R_putg HO_12.out ((ji22) : Int) ((a3 + ((x32_2) % 256)) % 256)
                  go_wp2_with (first | ((with_reducible refine gate_store (t := 5) (p := 56) rfl ?_); refine store_event (t := 5) (p := 56) (v := ?vo_w27) (w1 := (wr.setCell ⟨go25, ((ji22) : Int).toNat, none⟩ (.int .u8 ((a3 + ((x32_2) % 256)) % 256)))) ?hg ?ho ?hn ?hr ?_; (case ho => rfl); (case hg => rfl); (case hn => rfl); (case hr => first | (go_simp; done) | (go_simp; rfl)); intro w27 hw; have hg : wr.grownBy w27 (some go25) := (by rw [hw]; exact HP26.2); have hp_ : Kd.R (Kd.int .u8) 5 w27 w.heap.size (fun _ => True) (.slice (some ⟨go25, 0, none⟩) x12_3.length co25) y151 := (by rw [hw, Ny151.out]; exact HP26.1); clear HP26; have n0_ := Aside0.mk (hp_); have n1_ := Aside0.mk (Kd.N_afterv (v := (.slice (some ⟨go25, 0, none⟩) x12_3.length co25)) (v1 := (.slice (some ⟨go25, 0, none⟩) x12_3.length co25)) (ok := (fun k_ => k_ ≠ gb146)) (by (with_reducible repeat (first | apply Kd.N_alloc | apply Kd.N_drewN | apply Kd.N_drew)); exact Kd.N_mono HO_147001.out (fun _ hk => ⟨hk.2, hk.1⟩)) hg (.inl rfl)); have n2_ := Aside0.mk (blk_grown (g := gb146) (o := .cells #[.int .u8 ((1 + (Int.tmod a0 3)) % 256), u147001] 30 (0, 0)) (by (with_reducible repeat (first | refine blk_drewN ?_ _ | refine blk_drew ?_ | refine blk_alloc ?_ _)); exact BK146.out) hg (Kd.R_ne HO_12.out BK146.out (by decide))); have n3_ := Aside0.mk ((by rw [hw]; exact below_set (HB.out) GB25.out : Below w.heap.size w w27)); clear HO_12; clear HO_147001; clear BK146; clear HB; have HO_12 := n0_; have HO_147001 := n1_; have BK146 := n2_; have HB := n3_; clear n0_ n1_ n2_ n3_; clear hg hw hp_))
                  go_roundg k3
                  case measure => have := HJ6.out; have := HK2.out; have := HK3.out; omega
                  case rel => exact ⟨(y151), (wrap64 (x39_3 + 1)), (by first | rfl | (simp; done) | (simp [*]; done)), H', ⟨by have := HJ6.out; have := HK2.out; have := HK3.out; omega⟩, ⟨by (with_reducible repeat (first | apply Kd.R_alloc | apply Kd.R_drewN | apply Kd.R_drew)); exact HO_12.out⟩, ⟨by (with_reducible repeat (first | apply Kd.N_alloc | apply Kd.N_drewN | apply Kd.N_drew)); exact Kd.N_mono HO_147001.out (fun _ hk => ⟨hk.2, hk.1⟩)⟩, ⟨by (with_reducible repeat (first | refine blk_drewN ?_ _ | refine blk_drew ?_ | refine blk_alloc ?_ _)); exact BK146.out⟩, ⟨by repeat (first | (with_reducible first | exact HB.out | apply below_alloc | apply pw_below_drewN | apply below_drew1 | refine below_set ?_ GE146.out) | exact HB.out)⟩⟩
                 ·rw [if_neg c24] at H
                  exact absurd H (by simp)
                ·rw [if_neg c23] at H
                 exact absurd H (by simp)
              ·rw [if_neg c20] at H
               have c20b0 : decide (x39_3 < 9) = false := decide_eq_false c20
               clear c20
               have H' := Aside0.mk H
               clear H
               have p150 : 0 ≤ (x39_3 : Int) := of_decide_eq_true (by first | (with_reducible assumption) | assumption)
               have q150 : x39_3 < (l2.length : Int) := of_decide_eq_true (by first | (with_reducible assumption) | assumption)
               obtain ⟨ad150, e150, hx150_0⟩ := Kd.at_int HR2.out x39_3 p150 q150
               cases e150
               replace hx150_0 := (HB.out.cell (World.block_lt_of_cell? w _ hx150_0)).trans hx150_0
               replace p150 := eq_true p150
               replace q150 := eq_true q150
               go_wp2
               go_roundg k3
               case measure => have := HJ6.out; have := HK2.out; have := HK3.out; omega
               case rel => exact ⟨(x12_3), (wrap64 (x39_3 + 1)), (by first | rfl | (simp; done) | (simp [*]; done)), H', ⟨by have := HJ6.out; have := HK2.out; have := HK3.out; omega⟩, ⟨by (with_reducible repeat (first | apply Kd.R_alloc | apply Kd.R_drewN | apply Kd.R_drew)); exact HO_12.out⟩, ⟨by (with_reducible repeat (first | apply Kd.N_alloc | apply Kd.N_drewN | apply Kd.N_drew)); exact HO_147001.out⟩, ⟨by (with_reducible repeat (first | refine blk_drewN ?_ _ | refine blk_drew ?_ | refine blk_alloc ?_ _)); exact BK146.out⟩, ⟨by repeat (first | (with_reducible first | exact HB.out | apply below_alloc | apply pw_below_drewN | apply below_drew1 | refine below_set ?_ GE146.out) | exact HB.out)⟩⟩
             ·rw [if_neg c19] at H
              exact absurd H (by simp)
            ·rw [if_neg c18] at H
             exact absurd H (by simp)
           ·rw [if_neg c17] at H
            have c17b0 : decide (x39_3 < (l2.length : Int)) = false := decide_eq_false c17
            clear c17
            by_cases c28 : x147001_2.length < 5864062014805
            ·rw [if_pos c28] at H
             have LMc28 := Aside0.mk c28
             clear c28
             obtain ⟨y152, hy152⟩ : ∃ y_ : List (List Int), y_ = (x147001_2 ++ [x12_3]) := ⟨_, rfl⟩
             replace H : (kotatsulaw06_DiskForms.l0 k3 l2 a3 x10_6 (wrap64 (1 + (wrap64 (Int.tmod a1 3)))) (wrap64 (x32_2 + 1)) ((1 + (Int.tmod a0 3)) % 256) y152) = some r := by first | (rw [hy152]; with_reducible exact H) | (have H2_ := (Option.bind_some _ _).symm.trans H; rw [hy152]; with_reducible exact H2_) | (have H2_ := (Option.bind_some _ _).symm.trans H; with_reducible exact H2_) | with_reducible exact H | (rw [hy152]; exact H) | exact H
             have Ny152 := Aside0.mk hy152
             clear hy152
             have H' := Aside0.mk H
             clear H
             have hcz29_0 : wr.cell? ⟨gb146, 0, none⟩ = some (.int .u8 ((1 + (Int.tmod a0 3)) % 256)) := (blk_cell BK146.out 0).trans rfl
             have hcz29_1 : wr.cell? ⟨gb146, 1, none⟩ = some (u147001) := (blk_cell BK146.out 1).trans rfl
             have hfz29_0 := blk_frozen BK146.out 0
             have hfz29_1 := blk_frozen BK146.out 1
             obtain ⟨Ao31, co31, eo31⟩ := Kd.R_slice HO_12.out
             subst eo31
             go_wp2_with (first | ((with_reducible refine gate_builtin (b := .append) (xs := #[.tmp 59, .tmp 61]) rfl ?_); at_builtin; refine Kd.N_append (Kd.slice 5 (Kd.int .u8)) (w0 := w) w.heap.size rfl (.tmp 59) (.tmp 61) 28 22 (.slice none 0 0) 24 rfl Try.underlying28 info22 rfl (by decide) (by omega) u147001 x147001_2 x12_3 [.slice Ao31 x12_3.length co31] (fun k_ => k_ ≠ gb146) (fun k_ => ((fun k_ => k_ ≠ gb146)) k_ ∧ some k_ ≠ (u147001 : Value).ownBlock) rfl rfl ?aP (fun _ hk => hk) ?aF ?aO ?aB ?aS ?aL ?_; (case aP => exact (Kd.FK_slice_mk (Kd.R_reads' (Kd.R_mono (ok' := (fun k_ => ((fun k_ => k_ ≠ gb146)) k_ ∧ some k_ ≠ (u147001 : Value).ownBlock)) (Kd.R_types (Kd.R_apart' (HO_12.out) (Kd.N_typed HO_147001.out) (by decide)) BK146.out (by decide)) (fun k_ hk => ⟨hk.2, hk.1.2⟩))).2.1 (Kd.R_F (Kd.R_mono (ok' := (fun k_ => ((fun k_ => k_ ≠ gb146)) k_ ∧ some k_ ≠ (u147001 : Value).ownBlock)) (Kd.R_types (Kd.R_apart' (HO_12.out) (Kd.N_typed HO_147001.out) (by decide)) BK146.out (by decide)) (fun k_ hk => ⟨hk.2, hk.1.2⟩))))); (case aB => exact (by repeat (first | (with_reducible first | exact HB.out | apply below_alloc | apply pw_below_drewN | apply below_drew1 | refine below_set ?_ GE146.out) | exact HB.out))); (case aF => exact (fun k_ hk => Kd.freshB (g := gb146) (o := .cells #[.int .u8 ((1 + (Int.tmod a0 3)) % 256), u147001] 30 (0, 0)) (by (with_reducible repeat (first | refine blk_drewN ?_ _ | refine blk_drew ?_ | refine blk_alloc ?_ _)); exact BK146.out) k_ hk)); (case aO => exact (by (with_reducible repeat (first | apply Kd.N_alloc | apply Kd.N_drewN | apply Kd.N_drew)); exact Kd.N_mono HO_147001.out (fun _ hk => hk.2))); (case aS => exact (below_size (by repeat (first | (with_reducible first | exact HB.out | apply below_alloc | apply pw_below_drewN | apply below_drew1 | refine below_set ?_ GE146.out) | exact HB.out)))); (case aL => have := LMc28.out; omega); intro v153 w30 ho hb hg hat; rw [← Ny152.out] at ho; have n0_ := Aside0.mk (blk_grown (g := gb146) (o := .cells #[.int .u8 ((1 + (Int.tmod a0 3)) % 256), u147001] 30 (0, 0)) (by (with_reducible repeat (first | refine blk_drewN ?_ _ | refine blk_drew ?_ | refine blk_alloc ?_ _)); exact BK146.out) hg (Kd.N_ne HO_147001.out BK146.out (by decide))); have n1_ := Aside0.mk (hb); have n2_ := Aside0.mk (ho); clear BK146; clear HB; clear HO_147001; clear HO_12; have BK146 := n0_; have HB := n1_; have HO154 := n2_; clear n0_ n1_ n2_; clear ho hb hg hat; obtain ⟨Ao32, co32, eo32⟩ := Kd.N_slice HO154.out; subst eo32; have hcz33_0 : w30.cell? ⟨gb146, 0, none⟩ = some (.int .u8 ((1 + (Int.tmod a0 3)) % 256)) := (blk_cell BK146.out 0).trans rfl; have hcz33_1 : w30.cell? ⟨gb146, 1, none⟩ = some (u147001) := (blk_cell BK146.out 1).trans rfl; have hfz33_0 := blk_frozen BK146.out 0; have hfz33_1 := blk_frozen BK146.out 1))
             go_roundg k3
             case measure => have := HJ6.out; have := HK2.out; have := HK3.out; omega
             case rel => exact ⟨(wrap64 (x32_2 + 1)), (y152), (.slice Ao32 y152.length co32), (by first | rfl | (simp; done) | (simp [*]; done)), H', ⟨by have := HJ6.out; have := HK2.out; have := HK3.out; omega⟩, ⟨by (with_reducible repeat (first | apply Kd.N_alloc | apply Kd.N_drewN | apply Kd.N_drew)); exact Kd.N_mono (Kd.N_far (p := ⟨gb146, 1, none⟩) (Kd.N_mono HO154.out (fun k_ hk => (⟨hk, hk⟩ : _ ∧ k_ ≠ gb146))) (fun _ hk => hk.2) (.slice Ao32 y152.length co32)) (fun _ hk => hk.1)⟩, ⟨by (with_reducible repeat (first | refine blk_drewN ?_ _ | refine blk_drew ?_ | refine blk_alloc ?_ _)); refine blk_put (cs := #[.int .u8 ((1 + (Int.tmod a0 3)) % 256), u147001]) ?_ 1 _ rfl; (with_reducible repeat (first | refine blk_drewN ?_ _ | refine blk_drew ?_ | refine blk_alloc ?_ _)); exact BK146.out⟩, ⟨by repeat (first | (with_reducible first | exact HB.out | apply below_alloc | apply pw_below_drewN | apply below_drew1 | refine below_set ?_ GE146.out) | exact HB.out)⟩⟩
            ·rw [if_neg c28] at H
             exact absurd H (by simp)
        ·rw [if_neg c14] at H
         exact absurd H (by simp)
       ·rw [if_neg c13] at H
        exact absurd H (by simp)
      ·rw [if_neg c12] at H
       have c12b0 : decide (x32_2 < (wrap64 (1 + (wrap64 (Int.tmod a1 3))))) = false := decide_eq_false c12
       clear c12
       replace H := Option.bind_eq_some_iff.mp H
       obtain ⟨t155, A340, H⟩ := H
       replace H : ((kotatsuref01_Join.f k2 x147001_2).bind fun t158 => (if ((1 + (Int.tmod a0 3)) % 256) = 2 then ((some (([70, 68, 83, 26] : List Int) : List Int)).bind fun y161 => (if y161.length + 0 < 140737488355328 then (if 11 ≤ 281474976710656 then ((kotatsuref01_Join.f k2 (([(y161), (([((x147001_2.length : Int)) % 256] : List Int)), (List.replicate 11 0), t158] : List (List Int)))).bind fun t176 => (kotatsulaw06_DiskForms.j3 k2 t155 t176 ((1 + (Int.tmod a0 3)) % 256) x147001_2)) else (none)) else (none))) else (kotatsulaw06_DiskForms.j3 k2 t155 t158 ((1 + (Int.tmod a0 3)) % 256) x147001_2))) = some r := H
       have A34 := Aside0.mk A340
       clear A340
       replace H := Option.bind_eq_some_iff.mp H
       obtain ⟨t158, A350, H⟩ := H
       replace H : (if ((1 + (Int.tmod a0 3)) % 256) = 2 then ((some (([70, 68, 83, 26] : List Int) : List Int)).bind fun y161 => (if y161.length + 0 < 140737488355328 then (if 11 ≤ 281474976710656 then ((kotatsuref01_Join.f k2 (([(y161), (([((x147001_2.length : Int)) % 256] : List Int)), (List.replicate 11 0), t158] : List (List Int)))).bind fun t176 => (kotatsulaw06_DiskForms.j3 k2 t155 t176 ((1 + (Int.tmod a0 3)) % 256) x147001_2)) else (none)) else (none))) else (kotatsulaw06_DiskForms.j3 k2 t155 t158 ((1 + (Int.tmod a0 3)) % 256) x147001_2)) = some r := H
       have A35 := Aside0.mk A350
       clear A350
       have HC36 := Aside0.mk H
       clear H
       have hcz37_0 : wr.cell? ⟨gb146, 0, none⟩ = some (.int .u8 ((1 + (Int.tmod a0 3)) % 256)) := (blk_cell BK146.out 0).trans rfl
       have hcz37_1 : wr.cell? ⟨gb146, 1, none⟩ = some (u147001) := (blk_cell BK146.out 1).trans rfl
       have hfz37_0 := blk_frozen BK146.out 0
       have hfz37_1 := blk_frozen BK146.out 1
       obtain ⟨Ao38, co38, eo38⟩ := Kd.N_slice HO_147001.out
       subst eo38
       go_upto_if 72 with (first | ((with_reducible refine gate_callee (f := 15) rfl ?_); refine goesL_ (some 66) rfl rfl Try.func15 (by kernel_rfl) rfl #[.agg #[.int .u8 ((1 + (Int.tmod a0 3)) % 256), .slice Ao38 x147001_2.length co38]] rfl (by (try simp only [List.map_toArray, List.map_cons, List.map_nil]); first | done | rfl | (simp only [List.length_drop, List.length_take]; rfl)) ?_; (with_reducible refine (disk_Set_Bytes.calls k2 ((1 + (Int.tmod a0 3)) % 256) _ _ x147001_2 t155 _ ?side1 ?side2 A34.out).mono ?_); (case side1 => repeat (first | exact (Kd.N_reads' HO_147001.out).2.2 | (with_reducible refine Kd.C_alloc ?_ _) | (with_reducible refine Kd.C_drewN ?_ _) | (with_reducible refine Kd.C_drew ?_))); (case side2 => exact (Kd.N_reads' HO_147001.out).2.1); rintro e w39 ⟨v156, rfl, ho0, hb⟩; refine ⟨_, rfl, ?_⟩; have n0_ := Aside0.mk (Kd.N_elder' (by (with_reducible repeat (first | apply Kd.N_alloc | apply Kd.N_drewN | apply Kd.N_drew)); exact HO_147001.out) (Kd.R_base ho0) hb); have n1_ := Aside0.mk (Kd.R_lower ho0 (below_size (by repeat (first | (with_reducible first | exact HB.out | apply below_alloc | apply pw_below_drewN | apply below_drew1 | refine below_set ?_ GE146.out) | exact HB.out)))); have n2_ := Aside0.mk (blk_below (g := gb146) (o := .cells #[.int .u8 ((1 + (Int.tmod a0 3)) % 256), .slice Ao38 x147001_2.length co38] 30 (0, 0)) (by (with_reducible repeat (first | refine blk_drewN ?_ _ | refine blk_drew ?_ | refine blk_alloc ?_ _)); exact BK146.out) hb); have n3_ := Aside0.mk (below_step (by repeat (first | (with_reducible first | exact HB.out | apply below_alloc | apply pw_below_drewN | apply below_drew1 | refine below_set ?_ GE146.out) | exact HB.out)) hb); clear HO_147001; clear BK146; clear HB; have HO_147001 := n0_; have HO157 := n1_; have BK146 := n2_; have HB := n3_; clear n0_ n1_ n2_ n3_; (try clear hb); (try clear hb2); (try clear hk); (try clear hi); (try clear ho0); have hcz40_0 : w39.cell? ⟨gb146, 0, none⟩ = some (.int .u8 ((1 + (Int.tmod a0 3)) % 256)) := (blk_cell BK146.out 0).trans rfl; have hcz40_1 : w39.cell? ⟨gb146, 1, none⟩ = some (.slice Ao38 x147001_2.length co38) := (blk_cell BK146.out 1).trans rfl; have hfz40_0 := blk_frozen BK146.out 0; have hfz40_1 := blk_frozen BK146.out 1) | ((with_reducible refine gate_callee (f := 11) rfl ?_); refine goesL_ (some 69) rfl rfl Try.func11 (by kernel_rfl) rfl #[.slice Ao38 x147001_2.length co38] rfl (by (try simp only [List.map_toArray, List.map_cons, List.map_nil]); first | done | rfl | (simp only [List.length_drop, List.length_take]; rfl)) ?_; (with_reducible refine (kotatsuref01_Join.calls k2 _ _ x147001_2 t158 _ ?side1 ?side2 A35.out).mono ?_); (case side1 => repeat (first | exact (Kd.N_reads' HO_147001.out).2.2 | (with_reducible refine Kd.C_alloc ?_ _) | (with_reducible refine Kd.C_drewN ?_ _) | (with_reducible refine Kd.C_drew ?_))); (case side2 => exact (Kd.N_reads' HO_147001.out).2.1); rintro e w41 ⟨v159, rfl, ho0, hb⟩; refine ⟨_, rfl, ?_⟩; have n0_ := Aside0.mk (Kd.N_below (by (with_reducible repeat (first | apply Kd.N_alloc | apply Kd.N_drewN | apply Kd.N_drew)); exact HO_147001.out) hb); have n1_ := Aside0.mk (Kd.R_below (by (with_reducible repeat (first | apply Kd.R_alloc | apply Kd.R_drewN | apply Kd.R_drew)); exact HO157.out) hb); have n2_ := Aside0.mk (Kd.V_lower (Kd.V_mono (ok' := fun k_ => some k_ ≠ (.slice Ao38 x147001_2.length co38 : Value).ownBlock ∧ some k_ ≠ (v156 : Value).ownBlock ∧ k_ ≠ gb146) ho0 (fun k_ hk_ => ⟨(Kd.fresh' (Kd.N_lt (by (with_reducible repeat (first | apply Kd.N_alloc | apply Kd.N_drewN | apply Kd.N_drew)); exact HO_147001.out)) k_ hk_), (Kd.fresh' (Kd.R_lt (by (with_reducible repeat (first | apply Kd.R_alloc | apply Kd.R_drewN | apply Kd.R_drew)); exact HO157.out)) k_ hk_), (Kd.freshB (g := gb146) (o := .cells #[.int .u8 ((1 + (Int.tmod a0 3)) % 256), .slice Ao38 x147001_2.length co38] 30 (0, 0)) (by (with_reducible repeat (first | refine blk_drewN ?_ _ | refine blk_drew ?_ | refine blk_alloc ?_ _)); exact BK146.out) k_ hk_)⟩)) (below_size (by repeat (first | (with_reducible first | exact HB.out | apply below_alloc | apply pw_below_drewN | apply below_drew1 | refine below_set ?_ GE146.out) | exact HB.out)))); have n3_ := Aside0.mk (blk_below (g := gb146) (o := .cells #[.int .u8 ((1 + (Int.tmod a0 3)) % 256), .slice Ao38 x147001_2.length co38] 30 (0, 0)) (by (with_reducible repeat (first | refine blk_drewN ?_ _ | refine blk_drew ?_ | refine blk_alloc ?_ _)); exact BK146.out) hb); have n4_ := Aside0.mk (below_step (by repeat (first | (with_reducible first | exact HB.out | apply below_alloc | apply pw_below_drewN | apply below_drew1 | refine below_set ?_ GE146.out) | exact HB.out)) hb); clear HO_147001; clear HO157; clear BK146; clear HB; have HO_147001 := n0_; have HO157 := n1_; have HO160 := n2_; have BK146 := n3_; have HB := n4_; clear n0_ n1_ n2_ n3_ n4_; (try clear hb); (try clear hb2); (try clear hk); (try clear hi); (try clear ho0); have hcz42_0 : w41.cell? ⟨gb146, 0, none⟩ = some (.int .u8 ((1 + (Int.tmod a0 3)) % 256)) := (blk_cell BK146.out 0).trans rfl; have hcz42_1 : w41.cell? ⟨gb146, 1, none⟩ = some (.slice Ao38 x147001_2.length co38) := (blk_cell BK146.out 1).trans rfl; have hfz42_0 := blk_frozen BK146.out 0; have hfz42_1 := blk_frozen BK146.out 1))
       (try simp only [Act.put, List.setIfInBounds_toArray, List.set_cons_zero, List.set_cons_succ])
       go_cut [16] (fun v16 wc => ∃ (kq : Nat) (x16_35 : List Int), Aside0 (kotatsulaw06_DiskForms.j3 kq t155 x16_35 ((1 + (Int.tmod a0 3)) % 256) x147001_2 = some r) ∧ Aside0 (kq ≤ k2) ∧ Aside0 (Kd.R (Kd.int .u8) 5 wc w.heap.size (fun _ => True) v156 t155) ∧ Aside0 (Kd.V (Kd.int .u8) 5 wc w.heap.size (fun k_ => some k_ ≠ (v156 : Value).ownBlock ∧ some k_ ≠ ((.slice Ao38 x147001_2.length co38) : Value).ownBlock ∧ k_ ≠ gb146) v16 x16_35) ∧ Aside0 (Kd.N (Kd.slice 5 (Kd.int .u8)) 22 wc w.heap.size (fun k_ => some k_ ≠ (v156 : Value).ownBlock ∧ k_ ≠ gb146) (.slice Ao38 x147001_2.length co38) x147001_2) ∧ Aside0 (wc.heap[gb146]? = some (.cells #[.int .u8 ((1 + (Int.tmod a0 3)) % 256), (.slice Ao38 x147001_2.length co38)] 30 (0, 0))) ∧ Aside0 (Below w.heap.size w wc))
       case first =>
        have H := HC36.out
        clear HC36
        by_cases c43 : ((1 + (Int.tmod a0 3)) % 256) = 2
        ·rw [if_pos c43] at H
         have c43b0 : (((1 + (Int.tmod a0 3)) % 256) == 2) = true := beq_iff_eq.mpr c43
         have c43b1 : (((1 + (Int.tmod a0 3)) % 256) != 2) = false := bne_eq_false_iff_eq.mpr c43
         clear c43
         (first | rw [c43b0] | (simp only [i64_w, i32_w]; rw [c43b0]) | skip)
         obtain ⟨y161, hy161⟩ : ∃ y_ : List Int, y_ = (([70, 68, 83, 26] : List Int)) := ⟨_, rfl⟩
         replace H : (if y161.length + 0 < 140737488355328 then (if 11 ≤ 281474976710656 then ((kotatsuref01_Join.f k2 (([(y161), (([((x147001_2.length : Int)) % 256] : List Int)), (List.replicate 11 0), t158] : List (List Int)))).bind fun t176 => (kotatsulaw06_DiskForms.j3 k2 t155 t176 ((1 + (Int.tmod a0 3)) % 256) x147001_2)) else (none)) else (none)) = some r := by first | (rw [hy161]; with_reducible exact H) | (have H2_ := (Option.bind_some _ _).symm.trans H; rw [hy161]; with_reducible exact H2_) | (have H2_ := (Option.bind_some _ _).symm.trans H; with_reducible exact H2_) | with_reducible exact H | (rw [hy161]; exact H) | exact H
         have Ny161 := Aside0.mk hy161
         clear hy161
         by_cases c44 : y161.length + 0 < 140737488355328
         ·rw [if_pos c44] at H
          have LMc44 := Aside0.mk c44
          clear c44
          obtain ⟨y164, hy164⟩ : ∃ y_ : List Int, y_ = (y161) := ⟨_, rfl⟩
          replace H : (if 11 ≤ 281474976710656 then ((kotatsuref01_Join.f k2 (([y164, (([((x147001_2.length : Int)) % 256] : List Int)), (List.replicate 11 0), t158] : List (List Int)))).bind fun t176 => (kotatsulaw06_DiskForms.j3 k2 t155 t176 ((1 + (Int.tmod a0 3)) % 256) x147001_2)) else (none)) = some r := by first | (rw [hy164]; with_reducible exact H) | (have H2_ := (Option.bind_some _ _).symm.trans H; rw [hy164]; with_reducible exact H2_) | (have H2_ := (Option.bind_some _ _).symm.trans H; with_reducible exact H2_) | with_reducible exact H | (rw [hy164]; exact H) | exact H
          have Ny164 := Aside0.mk hy164
          clear hy164
          obtain ⟨y167, hy167⟩ : ∃ y_ : List Int, y_ = (([((x147001_2.length : Int)) % 256] : List Int)) := ⟨_, rfl⟩
          replace H : (if 11 ≤ 281474976710656 then ((kotatsuref01_Join.f k2 (([y164, y167, (List.replicate 11 0), t158] : List (List Int)))).bind fun t176 => (kotatsulaw06_DiskForms.j3 k2 t155 t176 ((1 + (Int.tmod a0 3)) % 256) x147001_2)) else (none)) = some r := by first | (rw [hy167]; with_reducible exact H) | (have H2_ := (Option.bind_some _ _).symm.trans H; rw [hy167]; with_reducible exact H2_) | (have H2_ := (Option.bind_some _ _).symm.trans H; with_reducible exact H2_) | with_reducible exact H | (rw [hy167]; exact H) | exact H
          have Ny167 := Aside0.mk hy167
          clear hy167
          by_cases c45 : 11 ≤ 281474976710656
          ·rw [if_pos c45] at H
           have c45b0 := eq_true c45
           have c45b1 : decide (11 ≤ 281474976710656) = true := decide_eq_true c45
           clear c45
           obtain ⟨y170, hy170⟩ : ∃ y_ : List Int, y_ = (List.replicate 11 0) := ⟨_, rfl⟩
           replace H : ((kotatsuref01_Join.f k2 (([y164, y167, y170, t158] : List (List Int)))).bind fun t176 => (kotatsulaw06_DiskForms.j3 k2 t155 t176 ((1 + (Int.tmod a0 3)) % 256) x147001_2)) = some r := by first | (rw [hy170]; with_reducible exact H) | (have H2_ := (Option.bind_some _ _).symm.trans H; rw [hy170]; with_reducible exact H2_) | (have H2_ := (Option.bind_some _ _).symm.trans H; with_reducible exact H2_) | with_reducible exact H | (rw [hy170]; exact H) | exact H
           have Ny170 := Aside0.mk hy170
           clear hy170
           obtain ⟨y173, hy173⟩ : ∃ y_ : List (List Int), y_ = (([y164, y167, y170, t158] : List (List Int))) := ⟨_, rfl⟩
           replace H : ((kotatsuref01_Join.f k2 y173).bind fun t176 => (kotatsulaw06_DiskForms.j3 k2 t155 t176 ((1 + (Int.tmod a0 3)) % 256) x147001_2)) = some r := by first | (rw [hy173]; with_reducible exact H) | (have H2_ := (Option.bind_some _ _).symm.trans H; rw [hy173]; with_reducible exact H2_) | (have H2_ := (Option.bind_some _ _).symm.trans H; with_reducible exact H2_) | with_reducible exact H | (rw [hy173]; exact H) | exact H
           have Ny173 := Aside0.mk hy173
           clear hy173
           replace H := Option.bind_eq_some_iff.mp H
           obtain ⟨t176, A460, H⟩ := H
           replace H : (kotatsulaw06_DiskForms.j3 k2 t155 t176 ((1 + (Int.tmod a0 3)) % 256) x147001_2) = some r := H
           have A46 := Aside0.mk A460
           clear A460
           have H' := Aside0.mk H
           clear H
           try go_wp2
           have n0_ := Aside0.mk (Kd.N_drew HO_147001.out)
           have n1_ := Aside0.mk (Kd.R_drew HO157.out)
           have n2_ := Aside0.mk (Kd.V_drew HO160.out)
           have n3_ := Aside0.mk (blk_drew BK146.out)
           have n4_ := Aside0.mk (below_drew1 HB.out)
           clear HO_147001
           clear HO157
           clear HO160
           clear BK146
           clear HB
           have HO_147001 := n0_
           have HO157 := n1_
           have HO160 := n2_
           have BK146 := n3_
           have HB := n4_
           clear n0_ n1_ n2_ n3_ n4_
           refine start_ (n := 12) (S := fun w' => w'.cell? ⟨gb146, 0, none⟩ = some (.int .u8 ((1 + (Int.tmod a0 3)) % 256)) ∧ w'.cell? ⟨gb146, 1, none⟩ = some (.slice Ao38 x147001_2.length co38)) (ds := []) #[false, false, false, false, false, false, false, false, false, false, false, false] (by kernel_rfl) rfl rfl ⟨(blk_cell BK146.out 0).trans rfl, (blk_cell BK146.out 1).trans rfl⟩ (fun hHeld => ?_); refine with_tabW kotatsulaw06_DiskForms.tab22 kotatsulaw06_DiskForms.bits22 (fun HT_ HW_ => ?_)
           generalize w41.drew = w47 at HO_147001 HO157 HO160 BK146 HB hHeld ⊢
           refine pure_ (i := 2) (N := some 75) (v := ?_) (a' := ?_) #[false, false, true, false, false, false, false, false, false, false, false, false] rfl rfl (any_of HT_.out (by kernel_rfl)) (fun _ _ _ h => h) (Or.inl ⟨by rfl, ?_⟩) ?_ ?_
           rotate_left
           ·intro w'
            go_simp
            with_reducible rfl
           rotate_left
           ·simp only [Act.put, List.setIfInBounds_toArray, List.set_cons_zero, List.set_cons_succ, i64_w, i32_w]
            rfl
           refine pure_ (i := 8) (N := some 81) (v := ?_) (a' := ?_) #[false, false, true, false, false, false, false, false, true, false, false, false] rfl rfl (any_of HT_.out (by kernel_rfl)) (fun _ _ _ h => h) (Or.inl ⟨by rfl, ?_⟩) ?_ ?_
           rotate_left
           ·intro w'
            go_simp
            with_reducible rfl
           rotate_left
           ·simp only [Act.put, List.setIfInBounds_toArray, List.set_cons_zero, List.set_cons_succ, i64_w, i32_w]
            rfl
           refine take_ (i := 3) (N := some 76) (v := ?_) (a' := ?_) #[false, false, true, true, false, false, false, false, true, false, false, false] rfl rfl (take_ofW HT_.out HW_.out (by kernel_rfl)) (fun _ _ _ h => h) (Or.inl ⟨by rfl, ?_⟩) hHeld ?_ ?_
           rotate_left
           ·rintro w' ⟨s0, s1⟩
            go_simp
            with_reducible rfl
           rotate_left
           ·simp only [Act.put, List.setIfInBounds_toArray, List.set_cons_zero, List.set_cons_succ, i64_w, i32_w]
            rfl
           refine pure_ (i := 4) (N := some 77) (v := ?_) (a' := ?_) #[false, false, true, true, true, false, false, false, true, false, false, false] rfl rfl (any_of HT_.out (by kernel_rfl)) (fun _ _ _ h => h) (Or.inl ⟨by rfl, ?_⟩) ?_ ?_
           rotate_left
           ·intro w'
            go_simp
            with_reducible rfl
           rotate_left
           ·simp only [Act.put, List.setIfInBounds_toArray, List.set_cons_zero, List.set_cons_succ, i64_w, i32_w]
            rfl
           refine pure_ (i := 5) (N := some 78) (v := ?_) (a' := ?_) #[false, false, true, true, true, true, false, false, true, false, false, false] rfl rfl (any_of HT_.out (by kernel_rfl)) (fun _ _ _ h => h) (Or.inl ⟨by rfl, ?_⟩) ?_ ?_
           rotate_left
           ·intro w'
            go_simp
            with_reducible rfl
           rotate_left
           ·simp only [Act.put, List.setIfInBounds_toArray, List.set_cons_zero, List.set_cons_succ, i64_w, i32_w]
            rfl
           refine join_ (σ := Value × Value × Value × Value) 3 #[true, true, true, true, true, true, true, true, true, false, false, false] (fun s_ => [(73, s_.1), (74, s_.2.1), (79, s_.2.2.1), (80, s_.2.2.2)]) (fun s_ w' => (w'.cell? ⟨gb146, 0, none⟩ = some (.int .u8 ((1 + (Int.tmod a0 3)) % 256)) ∧ w'.cell? ⟨gb146, 1, none⟩ = some (.slice Ao38 x147001_2.length co38)) ∧ (Kd.R (Kd.int .u8) 5 w' w.heap.size (fun k_ => some k_ ≠ (s_.2.1 : Value).ownBlock ∧ some k_ ≠ (s_.2.2.1 : Value).ownBlock ∧ some k_ ≠ (s_.2.2.2 : Value).ownBlock) v156 t155) ∧ (Kd.V (Kd.int .u8) 5 w' w.heap.size (fun k_ => some k_ ≠ (v156 : Value).ownBlock ∧ some k_ ≠ (s_.2.1 : Value).ownBlock ∧ some k_ ≠ (s_.2.2.1 : Value).ownBlock ∧ some k_ ≠ (s_.2.2.2 : Value).ownBlock ∧ some k_ ≠ (.slice Ao38 x147001_2.length co38 : Value).ownBlock ∧ k_ ≠ gb146) v159 t158) ∧ (Kd.V (Kd.int .u8) 5 w' w.heap.size (fun k_ => some k_ ≠ (v156 : Value).ownBlock ∧ some k_ ≠ (s_.2.2.1 : Value).ownBlock ∧ some k_ ≠ (s_.2.2.2 : Value).ownBlock ∧ k_ ≠ gb146) s_.2.1 y164) ∧ (Kd.R (Kd.int .u8) 5 w' w.heap.size (fun k_ => some k_ ≠ (v156 : Value).ownBlock ∧ some k_ ≠ (s_.2.2.2 : Value).ownBlock) s_.2.2.1 y167) ∧ (Kd.R (Kd.int .u8) 5 w' w.heap.size (fun k_ => some k_ ≠ (v156 : Value).ownBlock ∧ some k_ ≠ (s_.2.2.1 : Value).ownBlock) s_.2.2.2 y170) ∧ (Kd.N (Kd.slice 5 (Kd.int .u8)) 22 w' w.heap.size (fun k_ => some k_ ≠ (v156 : Value).ownBlock ∧ some k_ ≠ (s_.2.1 : Value).ownBlock ∧ some k_ ≠ (s_.2.2.1 : Value).ownBlock ∧ some k_ ≠ (s_.2.2.2 : Value).ownBlock ∧ k_ ≠ gb146) (.slice Ao38 x147001_2.length co38) x147001_2) ∧ (w'.heap[gb146]? = some (.cells #[.int .u8 ((1 + (Int.tmod a0 3)) % 256), .slice Ao38 x147001_2.length co38] 30 (0, 0))) ∧ (Below w.heap.size w w')) ?_ ?_
           rotate_left
           ·intro hJ0_1_6_7
            refine join_ (σ := Value × Value × Value) 4 #[true, true, true, true, true, true, true, false, true, false, false, false] (fun s_ => [(73, s_.1), (74, s_.2.1), (79, s_.2.2)]) (fun s_ w' => (w'.cell? ⟨gb146, 0, none⟩ = some (.int .u8 ((1 + (Int.tmod a0 3)) % 256)) ∧ w'.cell? ⟨gb146, 1, none⟩ = some (.slice Ao38 x147001_2.length co38)) ∧ (Kd.R (Kd.int .u8) 5 w' w.heap.size (fun k_ => some k_ ≠ (s_.2.1 : Value).ownBlock ∧ some k_ ≠ (s_.2.2 : Value).ownBlock) v156 t155) ∧ (Kd.V (Kd.int .u8) 5 w' w.heap.size (fun k_ => some k_ ≠ (v156 : Value).ownBlock ∧ some k_ ≠ (s_.2.1 : Value).ownBlock ∧ some k_ ≠ (s_.2.2 : Value).ownBlock ∧ some k_ ≠ (.slice Ao38 x147001_2.length co38 : Value).ownBlock ∧ k_ ≠ gb146) v159 t158) ∧ (Kd.V (Kd.int .u8) 5 w' w.heap.size (fun k_ => some k_ ≠ (v156 : Value).ownBlock ∧ some k_ ≠ (s_.2.2 : Value).ownBlock ∧ k_ ≠ gb146) s_.2.1 y164) ∧ (Kd.R (Kd.int .u8) 5 w' w.heap.size (fun k_ => some k_ ≠ (v156 : Value).ownBlock) s_.2.2 y167) ∧ (Kd.N (Kd.slice 5 (Kd.int .u8)) 22 w' w.heap.size (fun k_ => some k_ ≠ (v156 : Value).ownBlock ∧ some k_ ≠ (s_.2.1 : Value).ownBlock ∧ some k_ ≠ (s_.2.2 : Value).ownBlock ∧ k_ ≠ gb146) (.slice Ao38 x147001_2.length co38) x147001_2) ∧ (w'.heap[gb146]? = some (.cells #[.int .u8 ((1 + (Int.tmod a0 3)) % 256), .slice Ao38 x147001_2.length co38] 30 (0, 0))) ∧ (Below w.heap.size w w')) ?_ ?_
            rotate_left
            ·intro hJ0_1_6
             refine join_ (σ := Value × Value × Value) 4 #[true, true, true, true, true, true, false, true, true, false, false, false] (fun s_ => [(73, s_.1), (74, s_.2.1), (80, s_.2.2)]) (fun s_ w' => (w'.cell? ⟨gb146, 0, none⟩ = some (.int .u8 ((1 + (Int.tmod a0 3)) % 256)) ∧ w'.cell? ⟨gb146, 1, none⟩ = some (.slice Ao38 x147001_2.length co38)) ∧ (Kd.R (Kd.int .u8) 5 w' w.heap.size (fun k_ => some k_ ≠ (s_.2.1 : Value).ownBlock ∧ some k_ ≠ (s_.2.2 : Value).ownBlock) v156 t155) ∧ (Kd.V (Kd.int .u8) 5 w' w.heap.size (fun k_ => some k_ ≠ (v156 : Value).ownBlock ∧ some k_ ≠ (s_.2.1 : Value).ownBlock ∧ some k_ ≠ (s_.2.2 : Value).ownBlock ∧ some k_ ≠ (.slice Ao38 x147001_2.length co38 : Value).ownBlock ∧ k_ ≠ gb146) v159 t158) ∧ (Kd.V (Kd.int .u8) 5 w' w.heap.size (fun k_ => some k_ ≠ (v156 : Value).ownBlock ∧ some k_ ≠ (s_.2.2 : Value).ownBlock ∧ k_ ≠ gb146) s_.2.1 y164) ∧ (Kd.R (Kd.int .u8) 5 w' w.heap.size (fun k_ => some k_ ≠ (v156 : Value).ownBlock) s_.2.2 y170) ∧ (Kd.N (Kd.slice 5 (Kd.int .u8)) 22 w' w.heap.size (fun k_ => some k_ ≠ (v156 : Value).ownBlock ∧ some k_ ≠ (s_.2.1 : Value).ownBlock ∧ some k_ ≠ (s_.2.2 : Value).ownBlock ∧ k_ ≠ gb146) (.slice Ao38 x147001_2.length co38) x147001_2) ∧ (w'.heap[gb146]? = some (.cells #[.int .u8 ((1 + (Int.tmod a0 3)) % 256), .slice Ao38 x147001_2.length co38] 30 (0, 0))) ∧ (Below w.heap.size w w')) ?_ ?_
             rotate_left
             ·intro hJ0_1_7
              refine join_ (σ := Value × Value × Value) 4 #[true, false, true, true, true, true, true, true, true, false, false, false] (fun s_ => [(73, s_.1), (79, s_.2.1), (80, s_.2.2)]) (fun s_ w' => (w'.cell? ⟨gb146, 0, none⟩ = some (.int .u8 ((1 + (Int.tmod a0 3)) % 256)) ∧ w'.cell? ⟨gb146, 1, none⟩ = some (.slice Ao38 x147001_2.length co38)) ∧ (Kd.R (Kd.int .u8) 5 w' w.heap.size (fun k_ => some k_ ≠ (s_.1 : Value).ownBlock ∧ some k_ ≠ (s_.2.1 : Value).ownBlock ∧ some k_ ≠ (s_.2.2 : Value).ownBlock) v156 t155) ∧ (Kd.V (Kd.int .u8) 5 w' w.heap.size (fun k_ => some k_ ≠ (v156 : Value).ownBlock ∧ some k_ ≠ (s_.1 : Value).ownBlock ∧ some k_ ≠ (s_.2.1 : Value).ownBlock ∧ some k_ ≠ (s_.2.2 : Value).ownBlock ∧ some k_ ≠ (.slice Ao38 x147001_2.length co38 : Value).ownBlock ∧ k_ ≠ gb146) v159 t158) ∧ (Kd.R (Kd.int .u8) 5 w' w.heap.size (fun k_ => some k_ ≠ (v156 : Value).ownBlock ∧ some k_ ≠ (s_.2.1 : Value).ownBlock ∧ some k_ ≠ (s_.2.2 : Value).ownBlock) s_.1 y161) ∧ (Kd.R (Kd.int .u8) 5 w' w.heap.size (fun k_ => some k_ ≠ (v156 : Value).ownBlock ∧ some k_ ≠ (s_.1 : Value).ownBlock ∧ some k_ ≠ (s_.2.2 : Value).ownBlock) s_.2.1 y167) ∧ (Kd.R (Kd.int .u8) 5 w' w.heap.size (fun k_ => some k_ ≠ (v156 : Value).ownBlock ∧ some k_ ≠ (s_.1 : Value).ownBlock ∧ some k_ ≠ (s_.2.1 : Value).ownBlock) s_.2.2 y170) ∧ (Kd.N (Kd.slice 5 (Kd.int .u8)) 22 w' w.heap.size (fun k_ => some k_ ≠ (v156 : Value).ownBlock ∧ some k_ ≠ (s_.1 : Value).ownBlock ∧ some k_ ≠ (s_.2.1 : Value).ownBlock ∧ some k_ ≠ (s_.2.2 : Value).ownBlock ∧ k_ ≠ gb146) (.slice Ao38 x147001_2.length co38) x147001_2) ∧ (w'.heap[gb146]? = some (.cells #[.int .u8 ((1 + (Int.tmod a0 3)) % 256), .slice Ao38 x147001_2.length co38] 30 (0, 0))) ∧ (Below w.heap.size w w')) ?_ ?_
              rotate_left
              ·intro hJ0_6_7
               refine join_ (σ := Value × Value) 5 #[true, true, true, true, true, true, false, false, true, false, false, false] (fun s_ => [(73, s_.1), (74, s_.2)]) (fun s_ w' => (w'.cell? ⟨gb146, 0, none⟩ = some (.int .u8 ((1 + (Int.tmod a0 3)) % 256)) ∧ w'.cell? ⟨gb146, 1, none⟩ = some (.slice Ao38 x147001_2.length co38)) ∧ (Kd.R (Kd.int .u8) 5 w' w.heap.size (fun k_ => some k_ ≠ (s_.2 : Value).ownBlock) v156 t155) ∧ (Kd.V (Kd.int .u8) 5 w' w.heap.size (fun k_ => some k_ ≠ (v156 : Value).ownBlock ∧ some k_ ≠ (s_.2 : Value).ownBlock ∧ some k_ ≠ (.slice Ao38 x147001_2.length co38 : Value).ownBlock ∧ k_ ≠ gb146) v159 t158) ∧ (Kd.V (Kd.int .u8) 5 w' w.heap.size (fun k_ => some k_ ≠ (v156 : Value).ownBlock ∧ k_ ≠ gb146) s_.2 y164) ∧ (Kd.N (Kd.slice 5 (Kd.int .u8)) 22 w' w.heap.size (fun k_ => some k_ ≠ (v156 : Value).ownBlock ∧ some k_ ≠ (s_.2 : Value).ownBlock ∧ k_ ≠ gb146) (.slice Ao38 x147001_2.length co38) x147001_2) ∧ (w'.heap[gb146]? = some (.cells #[.int .u8 ((1 + (Int.tmod a0 3)) % 256), .slice Ao38 x147001_2.length co38] 30 (0, 0))) ∧ (Below w.heap.size w w')) ?_ ?_
               rotate_left
               ·intro hJ0_1
                refine join_ (σ := Value × Value) 5 #[true, false, true, true, true, true, true, false, true, false, false, false] (fun s_ => [(73, s_.1), (79, s_.2)]) (fun s_ w' => (w'.cell? ⟨gb146, 0, none⟩ = some (.int .u8 ((1 + (Int.tmod a0 3)) % 256)) ∧ w'.cell? ⟨gb146, 1, none⟩ = some (.slice Ao38 x147001_2.length co38)) ∧ (Kd.R (Kd.int .u8) 5 w' w.heap.size (fun k_ => some k_ ≠ (s_.1 : Value).ownBlock ∧ some k_ ≠ (s_.2 : Value).ownBlock) v156 t155) ∧ (Kd.V (Kd.int .u8) 5 w' w.heap.size (fun k_ => some k_ ≠ (v156 : Value).ownBlock ∧ some k_ ≠ (s_.1 : Value).ownBlock ∧ some k_ ≠ (s_.2 : Value).ownBlock ∧ some k_ ≠ (.slice Ao38 x147001_2.length co38 : Value).ownBlock ∧ k_ ≠ gb146) v159 t158) ∧ (Kd.R (Kd.int .u8) 5 w' w.heap.size (fun k_ => some k_ ≠ (v156 : Value).ownBlock ∧ some k_ ≠ (s_.2 : Value).ownBlock) s_.1 y161) ∧ (Kd.R (Kd.int .u8) 5 w' w.heap.size (fun k_ => some k_ ≠ (v156 : Value).ownBlock ∧ some k_ ≠ (s_.1 : Value).ownBlock) s_.2 y167) ∧ (Kd.N (Kd.slice 5 (Kd.int .u8)) 22 w' w.heap.size (fun k_ => some k_ ≠ (v156 : Value).ownBlock ∧ some k_ ≠ (s_.1 : Value).ownBlock ∧ some k_ ≠ (s_.2 : Value).ownBlock ∧ k_ ≠ gb146) (.slice Ao38 x147001_2.length co38) x147001_2) ∧ (w'.heap[gb146]? = some (.cells #[.int .u8 ((1 + (Int.tmod a0 3)) % 256), .slice Ao38 x147001_2.length co38] 30 (0, 0))) ∧ (Below w.heap.size w w')) ?_ ?_
                rotate_left
                ·intro hJ0_6
                 refine join_ (σ := Value × Value) 5 #[true, false, true, true, true, true, false, true, true, false, false, false] (fun s_ => [(73, s_.1), (80, s_.2)]) (fun s_ w' => (w'.cell? ⟨gb146, 0, none⟩ = some (.int .u8 ((1 + (Int.tmod a0 3)) % 256)) ∧ w'.cell? ⟨gb146, 1, none⟩ = some (.slice Ao38 x147001_2.length co38)) ∧ (Kd.R (Kd.int .u8) 5 w' w.heap.size (fun k_ => some k_ ≠ (s_.1 : Value).ownBlock ∧ some k_ ≠ (s_.2 : Value).ownBlock) v156 t155) ∧ (Kd.V (Kd.int .u8) 5 w' w.heap.size (fun k_ => some k_ ≠ (v156 : Value).ownBlock ∧ some k_ ≠ (s_.1 : Value).ownBlock ∧ some k_ ≠ (s_.2 : Value).ownBlock ∧ some k_ ≠ (.slice Ao38 x147001_2.length co38 : Value).ownBlock ∧ k_ ≠ gb146) v159 t158) ∧ (Kd.R (Kd.int .u8) 5 w' w.heap.size (fun k_ => some k_ ≠ (v156 : Value).ownBlock ∧ some k_ ≠ (s_.2 : Value).ownBlock) s_.1 y161) ∧ (Kd.R (Kd.int .u8) 5 w' w.heap.size (fun k_ => some k_ ≠ (v156 : Value).ownBlock ∧ some k_ ≠ (s_.1 : Value).ownBlock) s_.2 y170) ∧ (Kd.N (Kd.slice 5 (Kd.int .u8)) 22 w' w.heap.size (fun k_ => some k_ ≠ (v156 : Value).ownBlock ∧ some k_ ≠ (s_.1 : Value).ownBlock ∧ some k_ ≠ (s_.2 : Value).ownBlock ∧ k_ ≠ gb146) (.slice Ao38 x147001_2.length co38) x147001_2) ∧ (w'.heap[gb146]? = some (.cells #[.int .u8 ((1 + (Int.tmod a0 3)) % 256), .slice Ao38 x147001_2.length co38] 30 (0, 0))) ∧ (Below w.heap.size w w')) ?_ ?_
                 rotate_left
                 ·intro hJ0_7
                  refine join_ (σ := Value × Value) 5 #[false, false, true, true, true, true, true, true, true, false, false, false] (fun s_ => [(79, s_.1), (80, s_.2)]) (fun s_ w' => (w'.cell? ⟨gb146, 0, none⟩ = some (.int .u8 ((1 + (Int.tmod a0 3)) % 256)) ∧ w'.cell? ⟨gb146, 1, none⟩ = some (.slice Ao38 x147001_2.length co38)) ∧ (Kd.R (Kd.int .u8) 5 w' w.heap.size (fun k_ => some k_ ≠ (s_.1 : Value).ownBlock ∧ some k_ ≠ (s_.2 : Value).ownBlock) v156 t155) ∧ (Kd.V (Kd.int .u8) 5 w' w.heap.size (fun k_ => some k_ ≠ (v156 : Value).ownBlock ∧ some k_ ≠ (s_.1 : Value).ownBlock ∧ some k_ ≠ (s_.2 : Value).ownBlock ∧ some k_ ≠ (.slice Ao38 x147001_2.length co38 : Value).ownBlock ∧ k_ ≠ gb146) v159 t158) ∧ (Kd.R (Kd.int .u8) 5 w' w.heap.size (fun k_ => some k_ ≠ (v156 : Value).ownBlock ∧ some k_ ≠ (s_.2 : Value).ownBlock) s_.1 y167) ∧ (Kd.R (Kd.int .u8) 5 w' w.heap.size (fun k_ => some k_ ≠ (v156 : Value).ownBlock ∧ some k_ ≠ (s_.1 : Value).ownBlock) s_.2 y170) ∧ (Kd.N (Kd.slice 5 (Kd.int .u8)) 22 w' w.heap.size (fun k_ => some k_ ≠ (v156 : Value).ownBlock ∧ some k_ ≠ (s_.1 : Value).ownBlock ∧ some k_ ≠ (s_.2 : Value).ownBlock ∧ k_ ≠ gb146) (.slice Ao38 x147001_2.length co38) x147001_2) ∧ (w'.heap[gb146]? = some (.cells #[.int .u8 ((1 + (Int.tmod a0 3)) % 256), .slice Ao38 x147001_2.length co38] 30 (0, 0))) ∧ (Below w.heap.size w w')) ?_ ?_
                  rotate_left
                  ·intro hJ6_7
                   refine join_ (σ := Value) 6 #[true, false, true, true, true, true, false, false, true, false, false, false] (fun s_ => [(73, s_)]) (fun s_ w' => (w'.cell? ⟨gb146, 0, none⟩ = some (.int .u8 ((1 + (Int.tmod a0 3)) % 256)) ∧ w'.cell? ⟨gb146, 1, none⟩ = some (.slice Ao38 x147001_2.length co38)) ∧ (Kd.R (Kd.int .u8) 5 w' w.heap.size (fun k_ => some k_ ≠ (s_ : Value).ownBlock) v156 t155) ∧ (Kd.V (Kd.int .u8) 5 w' w.heap.size (fun k_ => some k_ ≠ (v156 : Value).ownBlock ∧ some k_ ≠ (s_ : Value).ownBlock ∧ some k_ ≠ (.slice Ao38 x147001_2.length co38 : Value).ownBlock ∧ k_ ≠ gb146) v159 t158) ∧ (Kd.R (Kd.int .u8) 5 w' w.heap.size (fun k_ => some k_ ≠ (v156 : Value).ownBlock) s_ y161) ∧ (Kd.N (Kd.slice 5 (Kd.int .u8)) 22 w' w.heap.size (fun k_ => some k_ ≠ (v156 : Value).ownBlock ∧ some k_ ≠ (s_ : Value).ownBlock ∧ k_ ≠ gb146) (.slice Ao38 x147001_2.length co38) x147001_2) ∧ (w'.heap[gb146]? = some (.cells #[.int .u8 ((1 + (Int.tmod a0 3)) % 256), .slice Ao38 x147001_2.length co38] 30 (0, 0))) ∧ (Below w.heap.size w w')) ?_ ?_
                   rotate_left
                   ·intro hJ0
                    refine join_ (σ := Value) 6 #[false, false, true, true, true, true, true, false, true, false, false, false] (fun s_ => [(79, s_)]) (fun s_ w' => (w'.cell? ⟨gb146, 0, none⟩ = some (.int .u8 ((1 + (Int.tmod a0 3)) % 256)) ∧ w'.cell? ⟨gb146, 1, none⟩ = some (.slice Ao38 x147001_2.length co38)) ∧ (Kd.R (Kd.int .u8) 5 w' w.heap.size (fun k_ => some k_ ≠ (s_ : Value).ownBlock) v156 t155) ∧ (Kd.V (Kd.int .u8) 5 w' w.heap.size (fun k_ => some k_ ≠ (v156 : Value).ownBlock ∧ some k_ ≠ (s_ : Value).ownBlock ∧ some k_ ≠ (.slice Ao38 x147001_2.length co38 : Value).ownBlock ∧ k_ ≠ gb146) v159 t158) ∧ (Kd.R (Kd.int .u8) 5 w' w.heap.size (fun k_ => some k_ ≠ (v156 : Value).ownBlock) s_ y167) ∧ (Kd.N (Kd.slice 5 (Kd.int .u8)) 22 w' w.heap.size (fun k_ => some k_ ≠ (v156 : Value).ownBlock ∧ some k_ ≠ (s_ : Value).ownBlock ∧ k_ ≠ gb146) (.slice Ao38 x147001_2.length co38) x147001_2) ∧ (w'.heap[gb146]? = some (.cells #[.int .u8 ((1 + (Int.tmod a0 3)) % 256), .slice Ao38 x147001_2.length co38] 30 (0, 0))) ∧ (Below w.heap.size w w')) ?_ ?_
                    rotate_left
                    ·intro hJ6
                     refine join_ (σ := Value) 6 #[false, false, true, true, true, true, false, true, true, false, false, false] (fun s_ => [(80, s_)]) (fun s_ w' => (w'.cell? ⟨gb146, 0, none⟩ = some (.int .u8 ((1 + (Int.tmod a0 3)) % 256)) ∧ w'.cell? ⟨gb146, 1, none⟩ = some (.slice Ao38 x147001_2.length co38)) ∧ (Kd.R (Kd.int .u8) 5 w' w.heap.size (fun k_ => some k_ ≠ (s_ : Value).ownBlock) v156 t155) ∧ (Kd.V (Kd.int .u8) 5 w' w.heap.size (fun k_ => some k_ ≠ (v156 : Value).ownBlock ∧ some k_ ≠ (s_ : Value).ownBlock ∧ some k_ ≠ (.slice Ao38 x147001_2.length co38 : Value).ownBlock ∧ k_ ≠ gb146) v159 t158) ∧ (Kd.R (Kd.int .u8) 5 w' w.heap.size (fun k_ => some k_ ≠ (v156 : Value).ownBlock) s_ y170) ∧ (Kd.N (Kd.slice 5 (Kd.int .u8)) 22 w' w.heap.size (fun k_ => some k_ ≠ (v156 : Value).ownBlock ∧ some k_ ≠ (s_ : Value).ownBlock ∧ k_ ≠ gb146) (.slice Ao38 x147001_2.length co38) x147001_2) ∧ (w'.heap[gb146]? = some (.cells #[.int .u8 ((1 + (Int.tmod a0 3)) % 256), .slice Ao38 x147001_2.length co38] 30 (0, 0))) ∧ (Below w.heap.size w w')) ?_ ?_
                     rotate_left
                     ·intro hJ7
                      refine three_ (i := 0) (j := 6) (k := 7) (Ni := some 73) (Nj := some 79) (Nk := some 80) #[true, false, true, true, true, true, false, false, true, false, false, false] #[false, false, true, true, true, true, true, false, true, false, false, false] #[false, false, true, true, true, true, false, true, true, false, false, false] rfl rfl rfl rfl rfl rfl (three_of HT_.out (by kernel_rfl)) (by decide) (by decide) (by decide) (fun K hK => ?_) (fun K hK => ?_) (fun K hK => ?_)
                      ·skip
                       refine Kd.R_lit_step (Kd.int .u8) _ 5 ?hg (N := 73) ?hd (xs := ([70, 68, 83, 26] : List Int)) (inner := [.int .u8 70, .int .u8 68, .int .u8 83, .int .u8 26]) (ok := fun _ => True) (okp := fun _ => True) ?hr ?hp (fun _ hk => hk) trivial (Below.refl _ _) (Nat.le_refl _) (by simp) ?_; (case hd => rfl); (case hg => rfl); (case hr => first | (go_simp; done) | (go_simp; rfl)); (case hp => exact (Reps.one (show Kd.M (Kd.int .u8) _ _ _ 70 [.int .u8 70] from rfl) (Reps.one (show Kd.M (Kd.int .u8) _ _ _ 68 [.int .u8 68] from rfl) (Reps.one (show Kd.M (Kd.int .u8) _ _ _ 83 [.int .u8 83] from rfl) (Reps.one (show Kd.M (Kd.int .u8) _ _ _ 26 [.int .u8 26] from rfl) (Reps.none _ _))))))
                       intro v162 w48 ho49 hb hg_ hnew_
                       clear hg_ hnew_
                       (first | rw [← Ny161.out] at ho49 | (simp only [Int.reduceToNat] at ho49; rw [← Ny161.out] at ho49))
                       have n0_ := Aside0.mk (Kd.N_elder' (by (with_reducible repeat (first | apply Kd.N_alloc | apply Kd.N_drewN | apply Kd.N_drew)); exact HO_147001.out) (Kd.R_base ho49) hb)
                       have n1_ := Aside0.mk (Kd.R_elder' (by (with_reducible repeat (first | apply Kd.R_alloc | apply Kd.R_drewN | apply Kd.R_drew)); exact HO157.out) (Kd.R_base ho49) hb)
                       have n2_ := Aside0.mk (Kd.V_elder' (by (with_reducible repeat (first | apply Kd.V_alloc | apply Kd.V_drewN | apply Kd.V_drew)); exact HO160.out) (Kd.R_base ho49) hb)
                       have n3_ := Aside0.mk (Kd.R_lower (Kd.R_new' ho49 (Kd.R_lt (by (with_reducible repeat (first | apply Kd.R_alloc | apply Kd.R_drewN | apply Kd.R_drew)); exact HO157.out))) (below_size (by repeat (first | (with_reducible first | exact HB.out | apply below_alloc | apply pw_below_drewN | apply below_drew1 | refine below_set ?_ GE146.out) | exact HB.out))))
                       have n4_ := Aside0.mk (blk_below (g := gb146) (o := .cells #[.int .u8 ((1 + (Int.tmod a0 3)) % 256), .slice Ao38 x147001_2.length co38] 30 (0, 0)) (by (with_reducible repeat (first | refine blk_drewN ?_ _ | refine blk_drew ?_ | refine blk_alloc ?_ _)); exact BK146.out) hb)
                       have n5_ := Aside0.mk (below_step (by repeat (first | (with_reducible first | exact HB.out | apply below_alloc | apply pw_below_drewN | apply below_drew1 | refine below_set ?_ GE146.out) | exact HB.out)) hb)
                       clear HO_147001
                       clear HO157
                       clear HO160
                       clear BK146
                       clear HB
                       have HO_147001 := n0_
                       have HO157 := n1_
                       have HO160 := n2_
                       have HO163 := n3_
                       have BK146 := n4_
                       have HB := n5_
                       clear n0_ n1_ n2_ n3_ n4_ n5_
                       clear hb ho49
                       refine hK.out _ _ ⟨(blk_cell BK146.out 0).trans rfl, (blk_cell BK146.out 1).trans rfl⟩ (fun hHeld => ?_)
                       clear hK K
                       refine norm_ (a' := ?_) ?_ ?_
                       rotate_left
                       ·show Act.put _ (some 73) _ = _
                        simp only [Act.put, List.setIfInBounds_toArray, List.set_cons_zero, List.set_cons_succ, i64_w, i32_w]
                        rfl
                       exact norm_ (by first | (simp only [putAll, Act.put, List.setIfInBounds_toArray, List.set_cons_zero, List.set_cons_succ]; done) | (simp only [putAll, Act.put, List.setIfInBounds_toArray, List.set_cons_zero, List.set_cons_succ]; rfl)) (hJ0 (v162) _ ⟨hHeld, (by (with_reducible repeat (first | apply Kd.R_alloc | apply Kd.R_drewN | apply Kd.R_drew)); exact Kd.R_mono HO157.out (fun _ hk => hk.2)), (by (with_reducible repeat (first | apply Kd.V_alloc | apply Kd.V_drewN | apply Kd.V_drew)); exact Kd.V_mono HO160.out (fun _ hk => ⟨hk.1.2.1, ⟨hk.2, ⟨hk.1.1, hk.1.2.2⟩⟩⟩)), (by (with_reducible repeat (first | apply Kd.R_alloc | apply Kd.R_drewN | apply Kd.R_drew)); exact Kd.R_mono HO163.out (fun _ hk => hk.2)), (by (with_reducible repeat (first | apply Kd.N_alloc | apply Kd.N_drewN | apply Kd.N_drew)); exact Kd.N_mono HO_147001.out (fun _ hk => ⟨hk.1.2, ⟨hk.2, hk.1.1⟩⟩)), (by (with_reducible repeat (first | refine blk_drewN ?_ _ | refine blk_drew ?_ | refine blk_alloc ?_ _)); exact BK146.out), (by repeat (first | (with_reducible first | exact HB.out | apply below_alloc | apply pw_below_drewN | apply below_drew1 | refine below_set ?_ GE146.out) | exact HB.out))⟩)
                      ·skip
                       refine Kd.R_lit_step (Kd.int .u8) _ 5 ?hg (N := 79) ?hd (xs := ([((x147001_2.length : Int)) % 256] : List Int)) (inner := [.int .u8 (((x147001_2.length : Int)) % 256)]) (ok := fun _ => True) (okp := fun _ => True) ?hr ?hp (fun _ hk => hk) trivial (Below.refl _ _) (Nat.le_refl _) (by simp) ?_; (case hd => rfl); (case hg => rfl); (case hr => first | (go_simp; done) | (go_simp; rfl)); (case hp => exact (Reps.one (show Kd.M (Kd.int .u8) _ _ _ (((x147001_2.length : Int)) % 256) [.int .u8 (((x147001_2.length : Int)) % 256)] from rfl) (Reps.none _ _)))
                       intro v168 w48 ho49 hb hg_ hnew_
                       clear hg_ hnew_
                       (first | rw [← Ny167.out] at ho49 | (simp only [Int.reduceToNat] at ho49; rw [← Ny167.out] at ho49))
                       have n0_ := Aside0.mk (Kd.N_elder' (by (with_reducible repeat (first | apply Kd.N_alloc | apply Kd.N_drewN | apply Kd.N_drew)); exact HO_147001.out) (Kd.R_base ho49) hb)
                       have n1_ := Aside0.mk (Kd.R_elder' (by (with_reducible repeat (first | apply Kd.R_alloc | apply Kd.R_drewN | apply Kd.R_drew)); exact HO157.out) (Kd.R_base ho49) hb)
                       have n2_ := Aside0.mk (Kd.V_elder' (by (with_reducible repeat (first | apply Kd.V_alloc | apply Kd.V_drewN | apply Kd.V_drew)); exact HO160.out) (Kd.R_base ho49) hb)
                       have n3_ := Aside0.mk (Kd.R_lower (Kd.R_new' ho49 (Kd.R_lt (by (with_reducible repeat (first | apply Kd.R_alloc | apply Kd.R_drewN | apply Kd.R_drew)); exact HO157.out))) (below_size (by repeat (first | (with_reducible first | exact HB.out | apply below_alloc | apply pw_below_drewN | apply below_drew1 | refine below_set ?_ GE146.out) | exact HB.out))))
                       have n4_ := Aside0.mk (blk_below (g := gb146) (o := .cells #[.int .u8 ((1 + (Int.tmod a0 3)) % 256), .slice Ao38 x147001_2.length co38] 30 (0, 0)) (by (with_reducible repeat (first | refine blk_drewN ?_ _ | refine blk_drew ?_ | refine blk_alloc ?_ _)); exact BK146.out) hb)
                       have n5_ := Aside0.mk (below_step (by repeat (first | (with_reducible first | exact HB.out | apply below_alloc | apply pw_below_drewN | apply below_drew1 | refine below_set ?_ GE146.out) | exact HB.out)) hb)
                       clear HO_147001
                       clear HO157
                       clear HO160
                       clear BK146
                       clear HB
                       have HO_147001 := n0_
                       have HO157 := n1_
                       have HO160 := n2_
                       have HO169 := n3_
                       have BK146 := n4_
                       have HB := n5_
                       clear n0_ n1_ n2_ n3_ n4_ n5_
                       clear hb ho49
                       refine hK.out _ _ ⟨(blk_cell BK146.out 0).trans rfl, (blk_cell BK146.out 1).trans rfl⟩ (fun hHeld => ?_)
                       clear hK K
                       refine norm_ (a' := ?_) ?_ ?_
                       rotate_left
                       ·show Act.put _ (some 79) _ = _
                        simp only [Act.put, List.setIfInBounds_toArray, List.set_cons_zero, List.set_cons_succ, i64_w, i32_w]
                        rfl
                       exact norm_ (by first | (simp only [putAll, Act.put, List.setIfInBounds_toArray, List.set_cons_zero, List.set_cons_succ]; done) | (simp only [putAll, Act.put, List.setIfInBounds_toArray, List.set_cons_zero, List.set_cons_succ]; rfl)) (hJ6 (v168) _ ⟨hHeld, (by (with_reducible repeat (first | apply Kd.R_alloc | apply Kd.R_drewN | apply Kd.R_drew)); exact Kd.R_mono HO157.out (fun _ hk => hk.2)), (by (with_reducible repeat (first | apply Kd.V_alloc | apply Kd.V_drewN | apply Kd.V_drew)); exact Kd.V_mono HO160.out (fun _ hk => ⟨hk.1.2.1, ⟨hk.2, ⟨hk.1.1, hk.1.2.2⟩⟩⟩)), (by (with_reducible repeat (first | apply Kd.R_alloc | apply Kd.R_drewN | apply Kd.R_drew)); exact Kd.R_mono HO169.out (fun _ hk => hk.2)), (by (with_reducible repeat (first | apply Kd.N_alloc | apply Kd.N_drewN | apply Kd.N_drew)); exact Kd.N_mono HO_147001.out (fun _ hk => ⟨hk.1.2, ⟨hk.2, hk.1.1⟩⟩)), (by (with_reducible repeat (first | refine blk_drewN ?_ _ | refine blk_drew ?_ | refine blk_alloc ?_ _)); exact BK146.out), (by repeat (first | (with_reducible first | exact HB.out | apply below_alloc | apply pw_below_drewN | apply below_drew1 | refine below_set ?_ GE146.out) | exact HB.out))⟩)
                      ·skip
                       refine Kd.R_make_step (Kd.int .u8) _ 5 (by rfl) (N := 80) rfl 22 _ _ rfl 11 rfl rfl Try.underlying22 (.int .u8 0) 1 info5 rfl (by decide) (by omega) 0 (ok := fun _ => True) (okp := fun _ => True) rfl (fun _ hk => hk) trivial (by omega) (by omega) (Below.refl _ _) (Nat.le_refl _) ?_
                       intro v171 w48 ho49 hb hg_ hnew_
                       clear hg_ hnew_
                       (first | rw [← Ny170.out] at ho49 | (simp only [Int.reduceToNat] at ho49; rw [← Ny170.out] at ho49))
                       have n0_ := Aside0.mk (Kd.N_elder' (by (with_reducible repeat (first | apply Kd.N_alloc | apply Kd.N_drewN | apply Kd.N_drew)); exact HO_147001.out) (Kd.R_base ho49) hb)
                       have n1_ := Aside0.mk (Kd.R_elder' (by (with_reducible repeat (first | apply Kd.R_alloc | apply Kd.R_drewN | apply Kd.R_drew)); exact HO157.out) (Kd.R_base ho49) hb)
                       have n2_ := Aside0.mk (Kd.V_elder' (by (with_reducible repeat (first | apply Kd.V_alloc | apply Kd.V_drewN | apply Kd.V_drew)); exact HO160.out) (Kd.R_base ho49) hb)
                       have n3_ := Aside0.mk (Kd.R_lower (Kd.R_new' ho49 (Kd.R_lt (by (with_reducible repeat (first | apply Kd.R_alloc | apply Kd.R_drewN | apply Kd.R_drew)); exact HO157.out))) (below_size (by repeat (first | (with_reducible first | exact HB.out | apply below_alloc | apply pw_below_drewN | apply below_drew1 | refine below_set ?_ GE146.out) | exact HB.out))))
                       have n4_ := Aside0.mk (blk_below (g := gb146) (o := .cells #[.int .u8 ((1 + (Int.tmod a0 3)) % 256), .slice Ao38 x147001_2.length co38] 30 (0, 0)) (by (with_reducible repeat (first | refine blk_drewN ?_ _ | refine blk_drew ?_ | refine blk_alloc ?_ _)); exact BK146.out) hb)
                       have n5_ := Aside0.mk (below_step (by repeat (first | (with_reducible first | exact HB.out | apply below_alloc | apply pw_below_drewN | apply below_drew1 | refine below_set ?_ GE146.out) | exact HB.out)) hb)
                       clear HO_147001
                       clear HO157
                       clear HO160
                       clear BK146
                       clear HB
                       have HO_147001 := n0_
                       have HO157 := n1_
                       have HO160 := n2_
                       have HO172 := n3_
                       have BK146 := n4_
                       have HB := n5_
                       clear n0_ n1_ n2_ n3_ n4_ n5_
                       clear hb ho49
                       refine hK.out _ _ ⟨(blk_cell BK146.out 0).trans rfl, (blk_cell BK146.out 1).trans rfl⟩ (fun hHeld => ?_)
                       clear hK K
                       refine norm_ (a' := ?_) ?_ ?_
                       rotate_left
                       ·show Act.put _ (some 80) _ = _
                        simp only [Act.put, List.setIfInBounds_toArray, List.set_cons_zero, List.set_cons_succ, i64_w, i32_w]
                        rfl
                       exact norm_ (by first | (simp only [putAll, Act.put, List.setIfInBounds_toArray, List.set_cons_zero, List.set_cons_succ]; done) | (simp only [putAll, Act.put, List.setIfInBounds_toArray, List.set_cons_zero, List.set_cons_succ]; rfl)) (hJ7 (v171) _ ⟨hHeld, (by (with_reducible repeat (first | apply Kd.R_alloc | apply Kd.R_drewN | apply Kd.R_drew)); exact Kd.R_mono HO157.out (fun _ hk => hk.2)), (by (with_reducible repeat (first | apply Kd.V_alloc | apply Kd.V_drewN | apply Kd.V_drew)); exact Kd.V_mono HO160.out (fun _ hk => ⟨hk.1.2.1, ⟨hk.2, ⟨hk.1.1, hk.1.2.2⟩⟩⟩)), (by (with_reducible repeat (first | apply Kd.R_alloc | apply Kd.R_drewN | apply Kd.R_drew)); exact Kd.R_mono HO172.out (fun _ hk => hk.2)), (by (with_reducible repeat (first | apply Kd.N_alloc | apply Kd.N_drewN | apply Kd.N_drew)); exact Kd.N_mono HO_147001.out (fun _ hk => ⟨hk.1.2, ⟨hk.2, hk.1.1⟩⟩)), (by (with_reducible repeat (first | refine blk_drewN ?_ _ | refine blk_drew ?_ | refine blk_alloc ?_ _)); exact BK146.out), (by repeat (first | (with_reducible first | exact HB.out | apply below_alloc | apply pw_below_drewN | apply below_drew1 | refine below_set ?_ GE146.out) | exact HB.out))⟩)
                     ·skip
                      rintro v171 w50 ⟨hS_, h0_, h1_, h2_, h3_, h4_, h5_⟩
                      have n0_ : Aside0 (Kd.R (Kd.int .u8) 5 w50 w.heap.size (fun k_ => some k_ ≠ (v171 : Value).ownBlock) v156 t155) := ⟨h0_⟩
                      have n1_ : Aside0 (Kd.V (Kd.int .u8) 5 w50 w.heap.size (fun k_ => some k_ ≠ (v156 : Value).ownBlock ∧ some k_ ≠ (v171 : Value).ownBlock ∧ some k_ ≠ (.slice Ao38 x147001_2.length co38 : Value).ownBlock ∧ k_ ≠ gb146) v159 t158) := ⟨h1_⟩
                      have n2_ : Aside0 (Kd.R (Kd.int .u8) 5 w50 w.heap.size (fun k_ => some k_ ≠ (v156 : Value).ownBlock) v171 y170) := ⟨h2_⟩
                      have n3_ : Aside0 (Kd.N (Kd.slice 5 (Kd.int .u8)) 22 w50 w.heap.size (fun k_ => some k_ ≠ (v156 : Value).ownBlock ∧ some k_ ≠ (v171 : Value).ownBlock ∧ k_ ≠ gb146) (.slice Ao38 x147001_2.length co38) x147001_2) := ⟨h3_⟩
                      have n4_ : Aside0 (w50.heap[gb146]? = some (.cells #[.int .u8 ((1 + (Int.tmod a0 3)) % 256), .slice Ao38 x147001_2.length co38] 30 (0, 0))) := ⟨h4_⟩
                      have n5_ : Aside0 (Below w.heap.size w w50) := ⟨h5_⟩
                      clear HO_147001
                      clear HO157
                      clear HO160
                      clear BK146
                      clear HB
                      clear h0_ h1_ h2_ h3_ h4_ h5_
                      have HO157 := n0_
                      have HO160 := n1_
                      have HO172 := n2_
                      have HO_147001 := n3_
                      have BK146 := n4_
                      have HB := n5_
                      clear n0_ n1_ n2_ n3_ n4_ n5_
                      have hHeld : w50.cell? ⟨gb146, 0, none⟩ = some (.int .u8 ((1 + (Int.tmod a0 3)) % 256)) ∧ w50.cell? ⟨gb146, 1, none⟩ = some (.slice Ao38 x147001_2.length co38) := hS_
                      refine norm_ (a' := ?_) ?_ ?_
                      rotate_left
                      ·simp only [putAll, Act.put, List.setIfInBounds_toArray, List.set_cons_zero, List.set_cons_succ]
                       rfl
                      refine two_ (i := 0) (j := 6) (Ni := some 73) (Nj := some 79) #[true, false, true, true, true, true, false, true, true, false, false, false] #[false, false, true, true, true, true, true, true, true, false, false, false] rfl rfl rfl rfl (two_of HT_.out (by kernel_rfl)) (by decide) (by decide) (fun K hK => ?_) (fun K hK => ?_)
                      ·skip
                       refine Kd.R_lit_step (Kd.int .u8) _ 5 ?hg (N := 73) ?hd (xs := ([70, 68, 83, 26] : List Int)) (inner := [.int .u8 70, .int .u8 68, .int .u8 83, .int .u8 26]) (ok := fun _ => True) (okp := fun _ => True) ?hr ?hp (fun _ hk => hk) trivial (Below.refl _ _) (Nat.le_refl _) (by simp) ?_; (case hd => rfl); (case hg => rfl); (case hr => first | (go_simp; done) | (go_simp; rfl)); (case hp => exact (Reps.one (show Kd.M (Kd.int .u8) _ _ _ 70 [.int .u8 70] from rfl) (Reps.one (show Kd.M (Kd.int .u8) _ _ _ 68 [.int .u8 68] from rfl) (Reps.one (show Kd.M (Kd.int .u8) _ _ _ 83 [.int .u8 83] from rfl) (Reps.one (show Kd.M (Kd.int .u8) _ _ _ 26 [.int .u8 26] from rfl) (Reps.none _ _))))))
                       intro v162 w51 ho52 hb hg_ hnew_
                       clear hg_ hnew_
                       (first | rw [← Ny161.out] at ho52 | (simp only [Int.reduceToNat] at ho52; rw [← Ny161.out] at ho52))
                       have n0_ := Aside0.mk (Kd.N_elder' (by (with_reducible repeat (first | apply Kd.N_alloc | apply Kd.N_drewN | apply Kd.N_drew)); exact HO_147001.out) (Kd.R_base ho52) hb)
                       have n1_ := Aside0.mk (Kd.R_elder' (by (with_reducible repeat (first | apply Kd.R_alloc | apply Kd.R_drewN | apply Kd.R_drew)); exact HO157.out) (Kd.R_base ho52) hb)
                       have n2_ := Aside0.mk (Kd.V_elder' (by (with_reducible repeat (first | apply Kd.V_alloc | apply Kd.V_drewN | apply Kd.V_drew)); exact HO160.out) (Kd.R_base ho52) hb)
                       have n3_ := Aside0.mk (Kd.R_elder' (by (with_reducible repeat (first | apply Kd.R_alloc | apply Kd.R_drewN | apply Kd.R_drew)); exact HO172.out) (Kd.R_base ho52) hb)
                       have n4_ := Aside0.mk (Kd.R_lower (Kd.R_new' (Kd.R_new' ho52 (Kd.R_lt (by (with_reducible repeat (first | apply Kd.R_alloc | apply Kd.R_drewN | apply Kd.R_drew)); exact HO157.out))) (Kd.R_lt (by (with_reducible repeat (first | apply Kd.R_alloc | apply Kd.R_drewN | apply Kd.R_drew)); exact HO172.out))) (below_size (by repeat (first | (with_reducible first | exact HB.out | apply below_alloc | apply pw_below_drewN | apply below_drew1 | refine below_set ?_ GE146.out) | exact HB.out))))
                       have n5_ := Aside0.mk (blk_below (g := gb146) (o := .cells #[.int .u8 ((1 + (Int.tmod a0 3)) % 256), .slice Ao38 x147001_2.length co38] 30 (0, 0)) (by (with_reducible repeat (first | refine blk_drewN ?_ _ | refine blk_drew ?_ | refine blk_alloc ?_ _)); exact BK146.out) hb)
                       have n6_ := Aside0.mk (below_step (by repeat (first | (with_reducible first | exact HB.out | apply below_alloc | apply pw_below_drewN | apply below_drew1 | refine below_set ?_ GE146.out) | exact HB.out)) hb)
                       clear HO_147001
                       clear HO157
                       clear HO160
                       clear HO172
                       clear BK146
                       clear HB
                       have HO_147001 := n0_
                       have HO157 := n1_
                       have HO160 := n2_
                       have HO172 := n3_
                       have HO163 := n4_
                       have BK146 := n5_
                       have HB := n6_
                       clear n0_ n1_ n2_ n3_ n4_ n5_ n6_
                       clear hb ho52
                       refine hK.out _ _ ⟨(blk_cell BK146.out 0).trans rfl, (blk_cell BK146.out 1).trans rfl⟩ (fun hHeld => ?_)
                       clear hK K
                       refine norm_ (a' := ?_) ?_ ?_
                       rotate_left
                       ·show Act.put _ (some 73) _ = _
                        simp only [Act.put, List.setIfInBounds_toArray, List.set_cons_zero, List.set_cons_succ, i64_w, i32_w]
                        rfl
                       exact norm_ (by first | (simp only [putAll, Act.put, List.setIfInBounds_toArray, List.set_cons_zero, List.set_cons_succ]; done) | (simp only [putAll, Act.put, List.setIfInBounds_toArray, List.set_cons_zero, List.set_cons_succ]; rfl)) (hJ0_7 (v162, v171) _ ⟨hHeld, (by (with_reducible repeat (first | apply Kd.R_alloc | apply Kd.R_drewN | apply Kd.R_drew)); exact Kd.R_mono HO157.out (fun _ hk => ⟨hk.2, hk.1⟩)), (by (with_reducible repeat (first | apply Kd.V_alloc | apply Kd.V_drewN | apply Kd.V_drew)); exact Kd.V_mono HO160.out (fun _ hk => ⟨hk.1.1, ⟨hk.2, ⟨hk.1.2.1, ⟨hk.1.2.2.1, hk.1.2.2.2⟩⟩⟩⟩)), (by (with_reducible repeat (first | apply Kd.R_alloc | apply Kd.R_drewN | apply Kd.R_drew)); exact Kd.R_mono HO163.out (fun _ hk => ⟨hk.1.2, hk.2⟩)), (by (with_reducible repeat (first | apply Kd.R_alloc | apply Kd.R_drewN | apply Kd.R_drew)); exact HO172.out), (by (with_reducible repeat (first | apply Kd.N_alloc | apply Kd.N_drewN | apply Kd.N_drew)); exact Kd.N_mono HO_147001.out (fun _ hk => ⟨hk.1.1, ⟨hk.2, ⟨hk.1.2.1, hk.1.2.2⟩⟩⟩)), (by (with_reducible repeat (first | refine blk_drewN ?_ _ | refine blk_drew ?_ | refine blk_alloc ?_ _)); exact BK146.out), (by repeat (first | (with_reducible first | exact HB.out | apply below_alloc | apply pw_below_drewN | apply below_drew1 | refine below_set ?_ GE146.out) | exact HB.out))⟩)
                      ·skip
                       refine Kd.R_lit_step (Kd.int .u8) _ 5 ?hg (N := 79) ?hd (xs := ([((x147001_2.length : Int)) % 256] : List Int)) (inner := [.int .u8 (((x147001_2.length : Int)) % 256)]) (ok := fun _ => True) (okp := fun _ => True) ?hr ?hp (fun _ hk => hk) trivial (Below.refl _ _) (Nat.le_refl _) (by simp) ?_; (case hd => rfl); (case hg => rfl); (case hr => first | (go_simp; done) | (go_simp; rfl)); (case hp => exact (Reps.one (show Kd.M (Kd.int .u8) _ _ _ (((x147001_2.length : Int)) % 256) [.int .u8 (((x147001_2.length : Int)) % 256)] from rfl) (Reps.none _ _)))
                       intro v168 w51 ho52 hb hg_ hnew_
                       clear hg_ hnew_
                       (first | rw [← Ny167.out] at ho52 | (simp only [Int.reduceToNat] at ho52; rw [← Ny167.out] at ho52))
                       have n0_ := Aside0.mk (Kd.N_elder' (by (with_reducible repeat (first | apply Kd.N_alloc | apply Kd.N_drewN | apply Kd.N_drew)); exact HO_147001.out) (Kd.R_base ho52) hb)
                       have n1_ := Aside0.mk (Kd.R_elder' (by (with_reducible repeat (first | apply Kd.R_alloc | apply Kd.R_drewN | apply Kd.R_drew)); exact HO157.out) (Kd.R_base ho52) hb)
                       have n2_ := Aside0.mk (Kd.V_elder' (by (with_reducible repeat (first | apply Kd.V_alloc | apply Kd.V_drewN | apply Kd.V_drew)); exact HO160.out) (Kd.R_base ho52) hb)
                       have n3_ := Aside0.mk (Kd.R_elder' (by (with_reducible repeat (first | apply Kd.R_alloc | apply Kd.R_drewN | apply Kd.R_drew)); exact HO172.out) (Kd.R_base ho52) hb)
                       have n4_ := Aside0.mk (Kd.R_lower (Kd.R_new' (Kd.R_new' ho52 (Kd.R_lt (by (with_reducible repeat (first | apply Kd.R_alloc | apply Kd.R_drewN | apply Kd.R_drew)); exact HO157.out))) (Kd.R_lt (by (with_reducible repeat (first | apply Kd.R_alloc | apply Kd.R_drewN | apply Kd.R_drew)); exact HO172.out))) (below_size (by repeat (first | (with_reducible first | exact HB.out | apply below_alloc | apply pw_below_drewN | apply below_drew1 | refine below_set ?_ GE146.out) | exact HB.out))))
                       have n5_ := Aside0.mk (blk_below (g := gb146) (o := .cells #[.int .u8 ((1 + (Int.tmod a0 3)) % 256), .slice Ao38 x147001_2.length co38] 30 (0, 0)) (by (with_reducible repeat (first | refine blk_drewN ?_ _ | refine blk_drew ?_ | refine blk_alloc ?_ _)); exact BK146.out) hb)
                       have n6_ := Aside0.mk (below_step (by repeat (first | (with_reducible first | exact HB.out | apply below_alloc | apply pw_below_drewN | apply below_drew1 | refine below_set ?_ GE146.out) | exact HB.out)) hb)
                       clear HO_147001
                       clear HO157
                       clear HO160
                       clear HO172
                       clear BK146
                       clear HB
                       have HO_147001 := n0_
                       have HO157 := n1_
                       have HO160 := n2_
                       have HO172 := n3_
                       have HO169 := n4_
                       have BK146 := n5_
                       have HB := n6_
                       clear n0_ n1_ n2_ n3_ n4_ n5_ n6_
                       clear hb ho52
                       refine hK.out _ _ ⟨(blk_cell BK146.out 0).trans rfl, (blk_cell BK146.out 1).trans rfl⟩ (fun hHeld => ?_)
                       clear hK K
                       refine norm_ (a' := ?_) ?_ ?_
                       rotate_left
                       ·show Act.put _ (some 79) _ = _
                        simp only [Act.put, List.setIfInBounds_toArray, List.set_cons_zero, List.set_cons_succ, i64_w, i32_w]
                        rfl
                       exact norm_ (by first | (simp only [putAll, Act.put, List.setIfInBounds_toArray, List.set_cons_zero, List.set_cons_succ]; done) | (simp only [putAll, Act.put, List.setIfInBounds_toArray, List.set_cons_zero, List.set_cons_succ]; rfl)) (hJ6_7 (v168, v171) _ ⟨hHeld, (by (with_reducible repeat (first | apply Kd.R_alloc | apply Kd.R_drewN | apply Kd.R_drew)); exact Kd.R_mono HO157.out (fun _ hk => ⟨hk.2, hk.1⟩)), (by (with_reducible repeat (first | apply Kd.V_alloc | apply Kd.V_drewN | apply Kd.V_drew)); exact Kd.V_mono HO160.out (fun _ hk => ⟨hk.1.1, ⟨hk.2, ⟨hk.1.2.1, ⟨hk.1.2.2.1, hk.1.2.2.2⟩⟩⟩⟩)), (by (with_reducible repeat (first | apply Kd.R_alloc | apply Kd.R_drewN | apply Kd.R_drew)); exact Kd.R_mono HO169.out (fun _ hk => ⟨hk.1.2, hk.2⟩)), (by (with_reducible repeat (first | apply Kd.R_alloc | apply Kd.R_drewN | apply Kd.R_drew)); exact HO172.out), (by (with_reducible repeat (first | apply Kd.N_alloc | apply Kd.N_drewN | apply Kd.N_drew)); exact Kd.N_mono HO_147001.out (fun _ hk => ⟨hk.1.1, ⟨hk.2, ⟨hk.1.2.1, hk.1.2.2⟩⟩⟩)), (by (with_reducible repeat (first | refine blk_drewN ?_ _ | refine blk_drew ?_ | refine blk_alloc ?_ _)); exact BK146.out), (by repeat (first | (with_reducible first | exact HB.out | apply below_alloc | apply pw_below_drewN | apply below_drew1 | refine below_set ?_ GE146.out) | exact HB.out))⟩)
                    ·skip
                     rintro v168 w50 ⟨hS_, h0_, h1_, h2_, h3_, h4_, h5_⟩
                     have n0_ : Aside0 (Kd.R (Kd.int .u8) 5 w50 w.heap.size (fun k_ => some k_ ≠ (v168 : Value).ownBlock) v156 t155) := ⟨h0_⟩
                     have n1_ : Aside0 (Kd.V (Kd.int .u8) 5 w50 w.heap.size (fun k_ => some k_ ≠ (v156 : Value).ownBlock ∧ some k_ ≠ (v168 : Value).ownBlock ∧ some k_ ≠ (.slice Ao38 x147001_2.length co38 : Value).ownBlock ∧ k_ ≠ gb146) v159 t158) := ⟨h1_⟩
                     have n2_ : Aside0 (Kd.R (Kd.int .u8) 5 w50 w.heap.size (fun k_ => some k_ ≠ (v156 : Value).ownBlock) v168 y167) := ⟨h2_⟩
                     have n3_ : Aside0 (Kd.N (Kd.slice 5 (Kd.int .u8)) 22 w50 w.heap.size (fun k_ => some k_ ≠ (v156 : Value).ownBlock ∧ some k_ ≠ (v168 : Value).ownBlock ∧ k_ ≠ gb146) (.slice Ao38 x147001_2.length co38) x147001_2) := ⟨h3_⟩
                     have n4_ : Aside0 (w50.heap[gb146]? = some (.cells #[.int .u8 ((1 + (Int.tmod a0 3)) % 256), .slice Ao38 x147001_2.length co38] 30 (0, 0))) := ⟨h4_⟩
                     have n5_ : Aside0 (Below w.heap.size w w50) := ⟨h5_⟩
                     clear HO_147001
                     clear HO157
                     clear HO160
                     clear BK146
                     clear HB
                     clear h0_ h1_ h2_ h3_ h4_ h5_
                     have HO157 := n0_
                     have HO160 := n1_
                     have HO169 := n2_
                     have HO_147001 := n3_
                     have BK146 := n4_
                     have HB := n5_
                     clear n0_ n1_ n2_ n3_ n4_ n5_
                     have hHeld : w50.cell? ⟨gb146, 0, none⟩ = some (.int .u8 ((1 + (Int.tmod a0 3)) % 256)) ∧ w50.cell? ⟨gb146, 1, none⟩ = some (.slice Ao38 x147001_2.length co38) := hS_
                     refine norm_ (a' := ?_) ?_ ?_
                     rotate_left
                     ·simp only [putAll, Act.put, List.setIfInBounds_toArray, List.set_cons_zero, List.set_cons_succ]
                      rfl
                     refine two_ (i := 0) (j := 7) (Ni := some 73) (Nj := some 80) #[true, false, true, true, true, true, true, false, true, false, false, false] #[false, false, true, true, true, true, true, true, true, false, false, false] rfl rfl rfl rfl (two_of HT_.out (by kernel_rfl)) (by decide) (by decide) (fun K hK => ?_) (fun K hK => ?_)
                     ·skip
                      refine Kd.R_lit_step (Kd.int .u8) _ 5 ?hg (N := 73) ?hd (xs := ([70, 68, 83, 26] : List Int)) (inner := [.int .u8 70, .int .u8 68, .int .u8 83, .int .u8 26]) (ok := fun _ => True) (okp := fun _ => True) ?hr ?hp (fun _ hk => hk) trivial (Below.refl _ _) (Nat.le_refl _) (by simp) ?_; (case hd => rfl); (case hg => rfl); (case hr => first | (go_simp; done) | (go_simp; rfl)); (case hp => exact (Reps.one (show Kd.M (Kd.int .u8) _ _ _ 70 [.int .u8 70] from rfl) (Reps.one (show Kd.M (Kd.int .u8) _ _ _ 68 [.int .u8 68] from rfl) (Reps.one (show Kd.M (Kd.int .u8) _ _ _ 83 [.int .u8 83] from rfl) (Reps.one (show Kd.M (Kd.int .u8) _ _ _ 26 [.int .u8 26] from rfl) (Reps.none _ _))))))
                      intro v162 w51 ho52 hb hg_ hnew_
                      clear hg_ hnew_
                      (first | rw [← Ny161.out] at ho52 | (simp only [Int.reduceToNat] at ho52; rw [← Ny161.out] at ho52))
                      have n0_ := Aside0.mk (Kd.N_elder' (by (with_reducible repeat (first | apply Kd.N_alloc | apply Kd.N_drewN | apply Kd.N_drew)); exact HO_147001.out) (Kd.R_base ho52) hb)
                      have n1_ := Aside0.mk (Kd.R_elder' (by (with_reducible repeat (first | apply Kd.R_alloc | apply Kd.R_drewN | apply Kd.R_drew)); exact HO157.out) (Kd.R_base ho52) hb)
                      have n2_ := Aside0.mk (Kd.V_elder' (by (with_reducible repeat (first | apply Kd.V_alloc | apply Kd.V_drewN | apply Kd.V_drew)); exact HO160.out) (Kd.R_base ho52) hb)
                      have n3_ := Aside0.mk (Kd.R_elder' (by (with_reducible repeat (first | apply Kd.R_alloc | apply Kd.R_drewN | apply Kd.R_drew)); exact HO169.out) (Kd.R_base ho52) hb)
                      have n4_ := Aside0.mk (Kd.R_lower (Kd.R_new' (Kd.R_new' ho52 (Kd.R_lt (by (with_reducible repeat (first | apply Kd.R_alloc | apply Kd.R_drewN | apply Kd.R_drew)); exact HO157.out))) (Kd.R_lt (by (with_reducible repeat (first | apply Kd.R_alloc | apply Kd.R_drewN | apply Kd.R_drew)); exact HO169.out))) (below_size (by repeat (first | (with_reducible first | exact HB.out | apply below_alloc | apply pw_below_drewN | apply below_drew1 | refine below_set ?_ GE146.out) | exact HB.out))))
                      have n5_ := Aside0.mk (blk_below (g := gb146) (o := .cells #[.int .u8 ((1 + (Int.tmod a0 3)) % 256), .slice Ao38 x147001_2.length co38] 30 (0, 0)) (by (with_reducible repeat (first | refine blk_drewN ?_ _ | refine blk_drew ?_ | refine blk_alloc ?_ _)); exact BK146.out) hb)
                      have n6_ := Aside0.mk (below_step (by repeat (first | (with_reducible first | exact HB.out | apply below_alloc | apply pw_below_drewN | apply below_drew1 | refine below_set ?_ GE146.out) | exact HB.out)) hb)
                      clear HO_147001
                      clear HO157
                      clear HO160
                      clear HO169
                      clear BK146
                      clear HB
                      have HO_147001 := n0_
                      have HO157 := n1_
                      have HO160 := n2_
                      have HO169 := n3_
                      have HO163 := n4_
                      have BK146 := n5_
                      have HB := n6_
                      clear n0_ n1_ n2_ n3_ n4_ n5_ n6_
                      clear hb ho52
                      refine hK.out _ _ ⟨(blk_cell BK146.out 0).trans rfl, (blk_cell BK146.out 1).trans rfl⟩ (fun hHeld => ?_)
                      clear hK K
                      refine norm_ (a' := ?_) ?_ ?_
                      rotate_left
                      ·show Act.put _ (some 73) _ = _
                       simp only [Act.put, List.setIfInBounds_toArray, List.set_cons_zero, List.set_cons_succ, i64_w, i32_w]
                       rfl
                      exact norm_ (by first | (simp only [putAll, Act.put, List.setIfInBounds_toArray, List.set_cons_zero, List.set_cons_succ]; done) | (simp only [putAll, Act.put, List.setIfInBounds_toArray, List.set_cons_zero, List.set_cons_succ]; rfl)) (hJ0_6 (v162, v168) _ ⟨hHeld, (by (with_reducible repeat (first | apply Kd.R_alloc | apply Kd.R_drewN | apply Kd.R_drew)); exact Kd.R_mono HO157.out (fun _ hk => ⟨hk.2, hk.1⟩)), (by (with_reducible repeat (first | apply Kd.V_alloc | apply Kd.V_drewN | apply Kd.V_drew)); exact Kd.V_mono HO160.out (fun _ hk => ⟨hk.1.1, ⟨hk.2, ⟨hk.1.2.1, ⟨hk.1.2.2.1, hk.1.2.2.2⟩⟩⟩⟩)), (by (with_reducible repeat (first | apply Kd.R_alloc | apply Kd.R_drewN | apply Kd.R_drew)); exact Kd.R_mono HO163.out (fun _ hk => ⟨hk.1.2, hk.2⟩)), (by (with_reducible repeat (first | apply Kd.R_alloc | apply Kd.R_drewN | apply Kd.R_drew)); exact HO169.out), (by (with_reducible repeat (first | apply Kd.N_alloc | apply Kd.N_drewN | apply Kd.N_drew)); exact Kd.N_mono HO_147001.out (fun _ hk => ⟨hk.1.1, ⟨hk.2, ⟨hk.1.2.1, hk.1.2.2⟩⟩⟩)), (by (with_reducible repeat (first | refine blk_drewN ?_ _ | refine blk_drew ?_ | refine blk_alloc ?_ _)); exact BK146.out), (by repeat (first | (with_reducible first | exact HB.out | apply below_alloc | apply pw_below_drewN | apply below_drew1 | refine below_set ?_ GE146.out) | exact HB.out))⟩)
                     ·skip
                      refine Kd.R_make_step (Kd.int .u8) _ 5 (by rfl) (N := 80) rfl 22 _ _ rfl 11 rfl rfl Try.underlying22 (.int .u8 0) 1 info5 rfl (by decide) (by omega) 0 (ok := fun _ => True) (okp := fun _ => True) rfl (fun _ hk => hk) trivial (by omega) (by omega) (Below.refl _ _) (Nat.le_refl _) ?_
                      intro v171 w51 ho52 hb hg_ hnew_
                      clear hg_ hnew_
                      (first | rw [← Ny170.out] at ho52 | (simp only [Int.reduceToNat] at ho52; rw [← Ny170.out] at ho52))
                      have n0_ := Aside0.mk (Kd.N_elder' (by (with_reducible repeat (first | apply Kd.N_alloc | apply Kd.N_drewN | apply Kd.N_drew)); exact HO_147001.out) (Kd.R_base ho52) hb)
                      have n1_ := Aside0.mk (Kd.R_elder' (by (with_reducible repeat (first | apply Kd.R_alloc | apply Kd.R_drewN | apply Kd.R_drew)); exact HO157.out) (Kd.R_base ho52) hb)
                      have n2_ := Aside0.mk (Kd.V_elder' (by (with_reducible repeat (first | apply Kd.V_alloc | apply Kd.V_drewN | apply Kd.V_drew)); exact HO160.out) (Kd.R_base ho52) hb)
                      have n3_ := Aside0.mk (Kd.R_elder' (by (with_reducible repeat (first | apply Kd.R_alloc | apply Kd.R_drewN | apply Kd.R_drew)); exact HO169.out) (Kd.R_base ho52) hb)
                      have n4_ := Aside0.mk (Kd.R_lower (Kd.R_new' (Kd.R_new' ho52 (Kd.R_lt (by (with_reducible repeat (first | apply Kd.R_alloc | apply Kd.R_drewN | apply Kd.R_drew)); exact HO157.out))) (Kd.R_lt (by (with_reducible repeat (first | apply Kd.R_alloc | apply Kd.R_drewN | apply Kd.R_drew)); exact HO169.out))) (below_size (by repeat (first | (with_reducible first | exact HB.out | apply below_alloc | apply pw_below_drewN | apply below_drew1 | refine below_set ?_ GE146.out) | exact HB.out))))
                      have n5_ := Aside0.mk (blk_below (g := gb146) (o := .cells #[.int .u8 ((1 + (Int.tmod a0 3)) % 256), .slice Ao38 x147001_2.length co38] 30 (0, 0)) (by (with_reducible repeat (first | refine blk_drewN ?_ _ | refine blk_drew ?_ | refine blk_alloc ?_ _)); exact BK146.out) hb)
                      have n6_ := Aside0.mk (below_step (by repeat (first | (with_reducible first | exact HB.out | apply below_alloc | apply pw_below_drewN | apply below_drew1 | refine below_set ?_ GE146.out) | exact HB.out)) hb)
                      clear HO_147001
                      clear HO157
                      clear HO160
                      clear HO169
                      clear BK146
                      clear HB
                      have HO_147001 := n0_
                      have HO157 := n1_
                      have HO160 := n2_
                      have HO169 := n3_
                      have HO172 := n4_
                      have BK146 := n5_
                      have HB := n6_
                      clear n0_ n1_ n2_ n3_ n4_ n5_ n6_
                      clear hb ho52
                      refine hK.out _ _ ⟨(blk_cell BK146.out 0).trans rfl, (blk_cell BK146.out 1).trans rfl⟩ (fun hHeld => ?_)
                      clear hK K
                      refine norm_ (a' := ?_) ?_ ?_
                      rotate_left
                      ·show Act.put _ (some 80) _ = _
                       simp only [Act.put, List.setIfInBounds_toArray, List.set_cons_zero, List.set_cons_succ, i64_w, i32_w]
                       rfl
                      exact norm_ (by first | (simp only [putAll, Act.put, List.setIfInBounds_toArray, List.set_cons_zero, List.set_cons_succ]; done) | (simp only [putAll, Act.put, List.setIfInBounds_toArray, List.set_cons_zero, List.set_cons_succ]; rfl)) (hJ6_7 (v168, v171) _ ⟨hHeld, (by (with_reducible repeat (first | apply Kd.R_alloc | apply Kd.R_drewN | apply Kd.R_drew)); exact HO157.out), (by (with_reducible repeat (first | apply Kd.V_alloc | apply Kd.V_drewN | apply Kd.V_drew)); exact Kd.V_mono HO160.out (fun _ hk => ⟨hk.1.1, ⟨hk.1.2.1, ⟨hk.2, ⟨hk.1.2.2.1, hk.1.2.2.2⟩⟩⟩⟩)), (by (with_reducible repeat (first | apply Kd.R_alloc | apply Kd.R_drewN | apply Kd.R_drew)); exact HO169.out), (by (with_reducible repeat (first | apply Kd.R_alloc | apply Kd.R_drewN | apply Kd.R_drew)); exact Kd.R_mono HO172.out (fun _ hk => ⟨hk.1.2, hk.2⟩)), (by (with_reducible repeat (first | apply Kd.N_alloc | apply Kd.N_drewN | apply Kd.N_drew)); exact Kd.N_mono HO_147001.out (fun _ hk => ⟨hk.1.1, ⟨hk.1.2.1, ⟨hk.2, hk.1.2.2⟩⟩⟩)), (by (with_reducible repeat (first | refine blk_drewN ?_ _ | refine blk_drew ?_ | refine blk_alloc ?_ _)); exact BK146.out), (by repeat (first | (with_reducible first | exact HB.out | apply below_alloc | apply pw_below_drewN | apply below_drew1 | refine below_set ?_ GE146.out) | exact HB.out))⟩)
                   ·skip
                    rintro v162 w50 ⟨hS_, h0_, h1_, h2_, h3_, h4_, h5_⟩
                    have n0_ : Aside0 (Kd.R (Kd.int .u8) 5 w50 w.heap.size (fun k_ => some k_ ≠ (v162 : Value).ownBlock) v156 t155) := ⟨h0_⟩
                    have n1_ : Aside0 (Kd.V (Kd.int .u8) 5 w50 w.heap.size (fun k_ => some k_ ≠ (v156 : Value).ownBlock ∧ some k_ ≠ (v162 : Value).ownBlock ∧ some k_ ≠ (.slice Ao38 x147001_2.length co38 : Value).ownBlock ∧ k_ ≠ gb146) v159 t158) := ⟨h1_⟩
                    have n2_ : Aside0 (Kd.R (Kd.int .u8) 5 w50 w.heap.size (fun k_ => some k_ ≠ (v156 : Value).ownBlock) v162 y161) := ⟨h2_⟩
                    have n3_ : Aside0 (Kd.N (Kd.slice 5 (Kd.int .u8)) 22 w50 w.heap.size (fun k_ => some k_ ≠ (v156 : Value).ownBlock ∧ some k_ ≠ (v162 : Value).ownBlock ∧ k_ ≠ gb146) (.slice Ao38 x147001_2.length co38) x147001_2) := ⟨h3_⟩
                    have n4_ : Aside0 (w50.heap[gb146]? = some (.cells #[.int .u8 ((1 + (Int.tmod a0 3)) % 256), .slice Ao38 x147001_2.length co38] 30 (0, 0))) := ⟨h4_⟩
                    have n5_ : Aside0 (Below w.heap.size w w50) := ⟨h5_⟩
                    clear HO_147001
                    clear HO157
                    clear HO160
                    clear BK146
                    clear HB
                    clear h0_ h1_ h2_ h3_ h4_ h5_
                    have HO157 := n0_
                    have HO160 := n1_
                    have HO163 := n2_
                    have HO_147001 := n3_
                    have BK146 := n4_
                    have HB := n5_
                    clear n0_ n1_ n2_ n3_ n4_ n5_
                    have hHeld : w50.cell? ⟨gb146, 0, none⟩ = some (.int .u8 ((1 + (Int.tmod a0 3)) % 256)) ∧ w50.cell? ⟨gb146, 1, none⟩ = some (.slice Ao38 x147001_2.length co38) := hS_
                    refine norm_ (a' := ?_) ?_ ?_
                    rotate_left
                    ·simp only [putAll, Act.put, List.setIfInBounds_toArray, List.set_cons_zero, List.set_cons_succ]
                     rfl
                    refine three_ (i := 1) (j := 6) (k := 7) (Ni := some 74) (Nj := some 79) (Nk := some 80) #[true, true, true, true, true, true, false, false, true, false, false, false] #[true, false, true, true, true, true, true, false, true, false, false, false] #[true, false, true, true, true, true, false, true, true, false, false, false] rfl rfl rfl rfl rfl rfl (three_of HT_.out (by kernel_rfl)) (by decide) (by decide) (by decide) (fun K hK => ?_) (fun K hK => ?_) (fun K hK => ?_)
                    ·skip
                     refine markR_step (w0 := w) w.heap.size 5 (by rfl) 22 (.tmp 73) rfl Try.underlying22 Try.underlying5 v162 y161 (fun k_ => some k_ ≠ (v156 : Value).ownBlock ∧ k_ ≠ gb146) rfl ?aO ?aP ?aB ?aS ?_
                     (case aP => rw [Ny161.out]; decide)
                     (case aB => exact (by repeat (first | (with_reducible first | exact HB.out | apply below_alloc | apply pw_below_drewN | apply below_drew1 | refine below_set ?_ GE146.out) | exact HB.out)))
                     (case aO => exact (by (with_reducible repeat (first | apply Kd.R_alloc | apply Kd.R_drewN | apply Kd.R_drew)); exact (Kd.R_types HO163.out BK146.out (by decide))))
                     (case aS => exact (below_size (by repeat (first | (with_reducible first | exact HB.out | apply below_alloc | apply pw_below_drewN | apply below_drew1 | refine below_set ?_ GE146.out) | exact HB.out))))
                     intro v165 w51 ho hb hg hat
                     rw [← Ny164.out] at ho
                     have n0_ := Aside0.mk (Kd.N_afterv (ok := (fun k_ => some k_ ≠ (v156 : Value).ownBlock ∧ k_ ≠ gb146)) (by (with_reducible repeat (first | apply Kd.N_alloc | apply Kd.N_drewN | apply Kd.N_drew)); exact Kd.N_mono HO_147001.out (fun _ hk => ⟨⟨hk.1, hk.2.2⟩, hk.2.1⟩)) hg hat)
                     have n1_ := Aside0.mk (blk_grown (g := gb146) (o := .cells #[.int .u8 ((1 + (Int.tmod a0 3)) % 256), .slice Ao38 x147001_2.length co38] 30 (0, 0)) (by (with_reducible repeat (first | refine blk_drewN ?_ _ | refine blk_drew ?_ | refine blk_alloc ?_ _)); exact BK146.out) hg (Kd.R_ne HO163.out BK146.out (by decide)))
                     have n2_ := Aside0.mk (Kd.R_after (ok := (fun _ => True)) (by (with_reducible repeat (first | apply Kd.R_alloc | apply Kd.R_drewN | apply Kd.R_drew)); exact Kd.R_mono HO157.out (fun _ hk => ⟨trivial, hk⟩)) hg hat)
                     have n3_ := Aside0.mk (Kd.V_afterv (ok := (fun k_ => some k_ ≠ (.slice Ao38 x147001_2.length co38 : Value).ownBlock ∧ some k_ ≠ (v156 : Value).ownBlock ∧ k_ ≠ gb146)) (by (with_reducible repeat (first | apply Kd.V_alloc | apply Kd.V_drewN | apply Kd.V_drew)); exact Kd.V_mono HO160.out (fun _ hk => ⟨⟨hk.2.2.1, ⟨hk.1, hk.2.2.2⟩⟩, hk.2.1⟩)) hg hat)
                     have n4_ := Aside0.mk (hb)
                     have n5_ := Aside0.mk (ho)
                     clear HO_147001
                     clear BK146
                     clear HO157
                     clear HO160
                     clear HB
                     clear HO163
                     have HO_147001 := n0_
                     have BK146 := n1_
                     have HO157 := n2_
                     have HO160 := n3_
                     have HB := n4_
                     have HO166 := n5_
                     clear n0_ n1_ n2_ n3_ n4_ n5_
                     clear ho hb hg hat
                     refine hK.out _ _ ⟨(blk_cell BK146.out 0).trans rfl, (blk_cell BK146.out 1).trans rfl⟩ (fun hHeld => ?_)
                     clear hK K
                     refine norm_ (a' := ?_) ?_ ?_
                     rotate_left
                     ·show Act.put _ (some 74) _ = _
                      simp only [Act.put, List.setIfInBounds_toArray, List.set_cons_zero, List.set_cons_succ, i64_w, i32_w]
                      rfl
                     exact norm_ (by first | (simp only [putAll, Act.put, List.setIfInBounds_toArray, List.set_cons_zero, List.set_cons_succ]; done) | (simp only [putAll, Act.put, List.setIfInBounds_toArray, List.set_cons_zero, List.set_cons_succ]; rfl)) (hJ0_1 (v162, v165) _ ⟨hHeld, (by (with_reducible repeat (first | apply Kd.R_alloc | apply Kd.R_drewN | apply Kd.R_drew)); exact Kd.R_mono HO157.out (fun _ hk => hk.2)), (by (with_reducible repeat (first | apply Kd.V_alloc | apply Kd.V_drewN | apply Kd.V_drew)); exact Kd.V_mono HO160.out (fun _ hk => ⟨hk.1.2.1, ⟨hk.2, ⟨hk.1.1, hk.1.2.2⟩⟩⟩)), (by (with_reducible repeat (first | apply Kd.V_alloc | apply Kd.V_drewN | apply Kd.V_drew)); exact HO166.out), (by (with_reducible repeat (first | apply Kd.N_alloc | apply Kd.N_drewN | apply Kd.N_drew)); exact Kd.N_mono HO_147001.out (fun _ hk => ⟨hk.1.1, ⟨hk.2, hk.1.2⟩⟩)), (by (with_reducible repeat (first | refine blk_drewN ?_ _ | refine blk_drew ?_ | refine blk_alloc ?_ _)); exact BK146.out), (by repeat (first | (with_reducible first | exact HB.out | apply below_alloc | apply pw_below_drewN | apply below_drew1 | refine below_set ?_ GE146.out) | exact HB.out))⟩)
                    ·skip
                     refine Kd.R_lit_step (Kd.int .u8) _ 5 ?hg (N := 79) ?hd (xs := ([((x147001_2.length : Int)) % 256] : List Int)) (inner := [.int .u8 (((x147001_2.length : Int)) % 256)]) (ok := fun _ => True) (okp := fun _ => True) ?hr ?hp (fun _ hk => hk) trivial (Below.refl _ _) (Nat.le_refl _) (by simp) ?_; (case hd => rfl); (case hg => rfl); (case hr => first | (go_simp; done) | (go_simp; rfl)); (case hp => exact (Reps.one (show Kd.M (Kd.int .u8) _ _ _ (((x147001_2.length : Int)) % 256) [.int .u8 (((x147001_2.length : Int)) % 256)] from rfl) (Reps.none _ _)))
                     intro v168 w51 ho52 hb hg_ hnew_
                     clear hg_ hnew_
                     (first | rw [← Ny167.out] at ho52 | (simp only [Int.reduceToNat] at ho52; rw [← Ny167.out] at ho52))
                     have n0_ := Aside0.mk (Kd.N_elder' (by (with_reducible repeat (first | apply Kd.N_alloc | apply Kd.N_drewN | apply Kd.N_drew)); exact HO_147001.out) (Kd.R_base ho52) hb)
                     have n1_ := Aside0.mk (Kd.R_elder' (by (with_reducible repeat (first | apply Kd.R_alloc | apply Kd.R_drewN | apply Kd.R_drew)); exact HO157.out) (Kd.R_base ho52) hb)
                     have n2_ := Aside0.mk (Kd.V_elder' (by (with_reducible repeat (first | apply Kd.V_alloc | apply Kd.V_drewN | apply Kd.V_drew)); exact HO160.out) (Kd.R_base ho52) hb)
                     have n3_ := Aside0.mk (Kd.R_elder' (by (with_reducible repeat (first | apply Kd.R_alloc | apply Kd.R_drewN | apply Kd.R_drew)); exact HO163.out) (Kd.R_base ho52) hb)
                     have n4_ := Aside0.mk (Kd.R_lower (Kd.R_new' (Kd.R_new' ho52 (Kd.R_lt (by (with_reducible repeat (first | apply Kd.R_alloc | apply Kd.R_drewN | apply Kd.R_drew)); exact HO157.out))) (Kd.R_lt (by (with_reducible repeat (first | apply Kd.R_alloc | apply Kd.R_drewN | apply Kd.R_drew)); exact HO163.out))) (below_size (by repeat (first | (with_reducible first | exact HB.out | apply below_alloc | apply pw_below_drewN | apply below_drew1 | refine below_set ?_ GE146.out) | exact HB.out))))
                     have n5_ := Aside0.mk (blk_below (g := gb146) (o := .cells #[.int .u8 ((1 + (Int.tmod a0 3)) % 256), .slice Ao38 x147001_2.length co38] 30 (0, 0)) (by (with_reducible repeat (first | refine blk_drewN ?_ _ | refine blk_drew ?_ | refine blk_alloc ?_ _)); exact BK146.out) hb)
                     have n6_ := Aside0.mk (below_step (by repeat (first | (with_reducible first | exact HB.out | apply below_alloc | apply pw_below_drewN | apply below_drew1 | refine below_set ?_ GE146.out) | exact HB.out)) hb)
                     clear HO_147001
                     clear HO157
                     clear HO160
                     clear HO163
                     clear BK146
                     clear HB
                     have HO_147001 := n0_
                     have HO157 := n1_
                     have HO160 := n2_
                     have HO163 := n3_
                     have HO169 := n4_
                     have BK146 := n5_
                     have HB := n6_
                     clear n0_ n1_ n2_ n3_ n4_ n5_ n6_
                     clear hb ho52
                     refine hK.out _ _ ⟨(blk_cell BK146.out 0).trans rfl, (blk_cell BK146.out 1).trans rfl⟩ (fun hHeld => ?_)
                     clear hK K
                     refine norm_ (a' := ?_) ?_ ?_
                     rotate_left
                     ·show Act.put _ (some 79) _ = _
                      simp only [Act.put, List.setIfInBounds_toArray, List.set_cons_zero, List.set_cons_succ, i64_w, i32_w]
                      rfl
                     exact norm_ (by first | (simp only [putAll, Act.put, List.setIfInBounds_toArray, List.set_cons_zero, List.set_cons_succ]; done) | (simp only [putAll, Act.put, List.setIfInBounds_toArray, List.set_cons_zero, List.set_cons_succ]; rfl)) (hJ0_6 (v162, v168) _ ⟨hHeld, (by (with_reducible repeat (first | apply Kd.R_alloc | apply Kd.R_drewN | apply Kd.R_drew)); exact HO157.out), (by (with_reducible repeat (first | apply Kd.V_alloc | apply Kd.V_drewN | apply Kd.V_drew)); exact Kd.V_mono HO160.out (fun _ hk => ⟨hk.1.1, ⟨hk.1.2.1, ⟨hk.2, ⟨hk.1.2.2.1, hk.1.2.2.2⟩⟩⟩⟩)), (by (with_reducible repeat (first | apply Kd.R_alloc | apply Kd.R_drewN | apply Kd.R_drew)); exact HO163.out), (by (with_reducible repeat (first | apply Kd.R_alloc | apply Kd.R_drewN | apply Kd.R_drew)); exact Kd.R_mono HO169.out (fun _ hk => ⟨hk.1.2, hk.2⟩)), (by (with_reducible repeat (first | apply Kd.N_alloc | apply Kd.N_drewN | apply Kd.N_drew)); exact Kd.N_mono HO_147001.out (fun _ hk => ⟨hk.1.1, ⟨hk.1.2.1, ⟨hk.2, hk.1.2.2⟩⟩⟩)), (by (with_reducible repeat (first | refine blk_drewN ?_ _ | refine blk_drew ?_ | refine blk_alloc ?_ _)); exact BK146.out), (by repeat (first | (with_reducible first | exact HB.out | apply below_alloc | apply pw_below_drewN | apply below_drew1 | refine below_set ?_ GE146.out) | exact HB.out))⟩)
                    ·skip
                     refine Kd.R_make_step (Kd.int .u8) _ 5 (by rfl) (N := 80) rfl 22 _ _ rfl 11 rfl rfl Try.underlying22 (.int .u8 0) 1 info5 rfl (by decide) (by omega) 0 (ok := fun _ => True) (okp := fun _ => True) rfl (fun _ hk => hk) trivial (by omega) (by omega) (Below.refl _ _) (Nat.le_refl _) ?_
                     intro v171 w51 ho52 hb hg_ hnew_
                     clear hg_ hnew_
                     (first | rw [← Ny170.out] at ho52 | (simp only [Int.reduceToNat] at ho52; rw [← Ny170.out] at ho52))
                     have n0_ := Aside0.mk (Kd.N_elder' (by (with_reducible repeat (first | apply Kd.N_alloc | apply Kd.N_drewN | apply Kd.N_drew)); exact HO_147001.out) (Kd.R_base ho52) hb)
                     have n1_ := Aside0.mk (Kd.R_elder' (by (with_reducible repeat (first | apply Kd.R_alloc | apply Kd.R_drewN | apply Kd.R_drew)); exact HO157.out) (Kd.R_base ho52) hb)
                     have n2_ := Aside0.mk (Kd.V_elder' (by (with_reducible repeat (first | apply Kd.V_alloc | apply Kd.V_drewN | apply Kd.V_drew)); exact HO160.out) (Kd.R_base ho52) hb)
                     have n3_ := Aside0.mk (Kd.R_elder' (by (with_reducible repeat (first | apply Kd.R_alloc | apply Kd.R_drewN | apply Kd.R_drew)); exact HO163.out) (Kd.R_base ho52) hb)
                     have n4_ := Aside0.mk (Kd.R_lower (Kd.R_new' (Kd.R_new' ho52 (Kd.R_lt (by (with_reducible repeat (first | apply Kd.R_alloc | apply Kd.R_drewN | apply Kd.R_drew)); exact HO157.out))) (Kd.R_lt (by (with_reducible repeat (first | apply Kd.R_alloc | apply Kd.R_drewN | apply Kd.R_drew)); exact HO163.out))) (below_size (by repeat (first | (with_reducible first | exact HB.out | apply below_alloc | apply pw_below_drewN | apply below_drew1 | refine below_set ?_ GE146.out) | exact HB.out))))
                     have n5_ := Aside0.mk (blk_below (g := gb146) (o := .cells #[.int .u8 ((1 + (Int.tmod a0 3)) % 256), .slice Ao38 x147001_2.length co38] 30 (0, 0)) (by (with_reducible repeat (first | refine blk_drewN ?_ _ | refine blk_drew ?_ | refine blk_alloc ?_ _)); exact BK146.out) hb)
                     have n6_ := Aside0.mk (below_step (by repeat (first | (with_reducible first | exact HB.out | apply below_alloc | apply pw_below_drewN | apply below_drew1 | refine below_set ?_ GE146.out) | exact HB.out)) hb)
                     clear HO_147001
                     clear HO157
                     clear HO160
                     clear HO163
                     clear BK146
                     clear HB
                     have HO_147001 := n0_
                     have HO157 := n1_
                     have HO160 := n2_
                     have HO163 := n3_
                     have HO172 := n4_
                     have BK146 := n5_
                     have HB := n6_
                     clear n0_ n1_ n2_ n3_ n4_ n5_ n6_
                     clear hb ho52
                     refine hK.out _ _ ⟨(blk_cell BK146.out 0).trans rfl, (blk_cell BK146.out 1).trans rfl⟩ (fun hHeld => ?_)
                     clear hK K
                     refine norm_ (a' := ?_) ?_ ?_
                     rotate_left
                     ·show Act.put _ (some 80) _ = _
                      simp only [Act.put, List.setIfInBounds_toArray, List.set_cons_zero, List.set_cons_succ, i64_w, i32_w]
                      rfl
                     exact norm_ (by first | (simp only [putAll, Act.put, List.setIfInBounds_toArray, List.set_cons_zero, List.set_cons_succ]; done) | (simp only [putAll, Act.put, List.setIfInBounds_toArray, List.set_cons_zero, List.set_cons_succ]; rfl)) (hJ0_7 (v162, v171) _ ⟨hHeld, (by (with_reducible repeat (first | apply Kd.R_alloc | apply Kd.R_drewN | apply Kd.R_drew)); exact HO157.out), (by (with_reducible repeat (first | apply Kd.V_alloc | apply Kd.V_drewN | apply Kd.V_drew)); exact Kd.V_mono HO160.out (fun _ hk => ⟨hk.1.1, ⟨hk.1.2.1, ⟨hk.2, ⟨hk.1.2.2.1, hk.1.2.2.2⟩⟩⟩⟩)), (by (with_reducible repeat (first | apply Kd.R_alloc | apply Kd.R_drewN | apply Kd.R_drew)); exact HO163.out), (by (with_reducible repeat (first | apply Kd.R_alloc | apply Kd.R_drewN | apply Kd.R_drew)); exact Kd.R_mono HO172.out (fun _ hk => ⟨hk.1.2, hk.2⟩)), (by (with_reducible repeat (first | apply Kd.N_alloc | apply Kd.N_drewN | apply Kd.N_drew)); exact Kd.N_mono HO_147001.out (fun _ hk => ⟨hk.1.1, ⟨hk.1.2.1, ⟨hk.2, hk.1.2.2⟩⟩⟩)), (by (with_reducible repeat (first | refine blk_drewN ?_ _ | refine blk_drew ?_ | refine blk_alloc ?_ _)); exact BK146.out), (by repeat (first | (with_reducible first | exact HB.out | apply below_alloc | apply pw_below_drewN | apply below_drew1 | refine below_set ?_ GE146.out) | exact HB.out))⟩)
                  ·skip
                   rintro ⟨v168, v171⟩ w52 ⟨hS_, h0_, h1_, h2_, h3_, h4_, h5_, h6_⟩
                   have n0_ : Aside0 (Kd.R (Kd.int .u8) 5 w52 w.heap.size (fun k_ => some k_ ≠ (v168 : Value).ownBlock ∧ some k_ ≠ (v171 : Value).ownBlock) v156 t155) := ⟨h0_⟩
                   have n1_ : Aside0 (Kd.V (Kd.int .u8) 5 w52 w.heap.size (fun k_ => some k_ ≠ (v156 : Value).ownBlock ∧ some k_ ≠ (v168 : Value).ownBlock ∧ some k_ ≠ (v171 : Value).ownBlock ∧ some k_ ≠ (.slice Ao38 x147001_2.length co38 : Value).ownBlock ∧ k_ ≠ gb146) v159 t158) := ⟨h1_⟩
                   have n2_ : Aside0 (Kd.R (Kd.int .u8) 5 w52 w.heap.size (fun k_ => some k_ ≠ (v156 : Value).ownBlock ∧ some k_ ≠ (v171 : Value).ownBlock) v168 y167) := ⟨h2_⟩
                   have n3_ : Aside0 (Kd.R (Kd.int .u8) 5 w52 w.heap.size (fun k_ => some k_ ≠ (v156 : Value).ownBlock ∧ some k_ ≠ (v168 : Value).ownBlock) v171 y170) := ⟨h3_⟩
                   have n4_ : Aside0 (Kd.N (Kd.slice 5 (Kd.int .u8)) 22 w52 w.heap.size (fun k_ => some k_ ≠ (v156 : Value).ownBlock ∧ some k_ ≠ (v168 : Value).ownBlock ∧ some k_ ≠ (v171 : Value).ownBlock ∧ k_ ≠ gb146) (.slice Ao38 x147001_2.length co38) x147001_2) := ⟨h4_⟩
                   have n5_ : Aside0 (w52.heap[gb146]? = some (.cells #[.int .u8 ((1 + (Int.tmod a0 3)) % 256), .slice Ao38 x147001_2.length co38] 30 (0, 0))) := ⟨h5_⟩
                   have n6_ : Aside0 (Below w.heap.size w w52) := ⟨h6_⟩
                   clear HO_147001
                   clear HO157
                   clear HO160
                   clear BK146
                   clear HB
                   clear h0_ h1_ h2_ h3_ h4_ h5_ h6_
                   have HO157 := n0_
                   have HO160 := n1_
                   have HO169 := n2_
                   have HO172 := n3_
                   have HO_147001 := n4_
                   have BK146 := n5_
                   have HB := n6_
                   clear n0_ n1_ n2_ n3_ n4_ n5_ n6_
                   have hHeld : w52.cell? ⟨gb146, 0, none⟩ = some (.int .u8 ((1 + (Int.tmod a0 3)) % 256)) ∧ w52.cell? ⟨gb146, 1, none⟩ = some (.slice Ao38 x147001_2.length co38) := hS_
                   refine norm_ (a' := ?_) ?_ ?_
                   rotate_left
                   ·simp only [putAll, Act.put, List.setIfInBounds_toArray, List.set_cons_zero, List.set_cons_succ]
                    rfl
                   refine one_ (i := 0) (N := some 73) #[true, false, true, true, true, true, true, true, true, false, false, false] rfl rfl (one_of HT_.out (by kernel_rfl)) (by decide) (fun K hK => ?_)
                   refine Kd.R_lit_step (Kd.int .u8) _ 5 ?hg (N := 73) ?hd (xs := ([70, 68, 83, 26] : List Int)) (inner := [.int .u8 70, .int .u8 68, .int .u8 83, .int .u8 26]) (ok := fun _ => True) (okp := fun _ => True) ?hr ?hp (fun _ hk => hk) trivial (Below.refl _ _) (Nat.le_refl _) (by simp) ?_; (case hd => rfl); (case hg => rfl); (case hr => first | (go_simp; done) | (go_simp; rfl)); (case hp => exact (Reps.one (show Kd.M (Kd.int .u8) _ _ _ 70 [.int .u8 70] from rfl) (Reps.one (show Kd.M (Kd.int .u8) _ _ _ 68 [.int .u8 68] from rfl) (Reps.one (show Kd.M (Kd.int .u8) _ _ _ 83 [.int .u8 83] from rfl) (Reps.one (show Kd.M (Kd.int .u8) _ _ _ 26 [.int .u8 26] from rfl) (Reps.none _ _))))))
                   intro v162 w53 ho54 hb hg_ hnew_
                   clear hg_ hnew_
                   (first | rw [← Ny161.out] at ho54 | (simp only [Int.reduceToNat] at ho54; rw [← Ny161.out] at ho54))
                   have n0_ := Aside0.mk (Kd.N_elder' (by (with_reducible repeat (first | apply Kd.N_alloc | apply Kd.N_drewN | apply Kd.N_drew)); exact HO_147001.out) (Kd.R_base ho54) hb)
                   have n1_ := Aside0.mk (Kd.R_elder' (by (with_reducible repeat (first | apply Kd.R_alloc | apply Kd.R_drewN | apply Kd.R_drew)); exact HO157.out) (Kd.R_base ho54) hb)
                   have n2_ := Aside0.mk (Kd.V_elder' (by (with_reducible repeat (first | apply Kd.V_alloc | apply Kd.V_drewN | apply Kd.V_drew)); exact HO160.out) (Kd.R_base ho54) hb)
                   have n3_ := Aside0.mk (Kd.R_elder' (by (with_reducible repeat (first | apply Kd.R_alloc | apply Kd.R_drewN | apply Kd.R_drew)); exact HO169.out) (Kd.R_base ho54) hb)
                   have n4_ := Aside0.mk (Kd.R_elder' (by (with_reducible repeat (first | apply Kd.R_alloc | apply Kd.R_drewN | apply Kd.R_drew)); exact HO172.out) (Kd.R_base ho54) hb)
                   have n5_ := Aside0.mk (Kd.R_lower (Kd.R_new' (Kd.R_new' (Kd.R_new' ho54 (Kd.R_lt (by (with_reducible repeat (first | apply Kd.R_alloc | apply Kd.R_drewN | apply Kd.R_drew)); exact HO157.out))) (Kd.R_lt (by (with_reducible repeat (first | apply Kd.R_alloc | apply Kd.R_drewN | apply Kd.R_drew)); exact HO169.out))) (Kd.R_lt (by (with_reducible repeat (first | apply Kd.R_alloc | apply Kd.R_drewN | apply Kd.R_drew)); exact HO172.out))) (below_size (by repeat (first | (with_reducible first | exact HB.out | apply below_alloc | apply pw_below_drewN | apply below_drew1 | refine below_set ?_ GE146.out) | exact HB.out))))
                   have n6_ := Aside0.mk (blk_below (g := gb146) (o := .cells #[.int .u8 ((1 + (Int.tmod a0 3)) % 256), .slice Ao38 x147001_2.length co38] 30 (0, 0)) (by (with_reducible repeat (first | refine blk_drewN ?_ _ | refine blk_drew ?_ | refine blk_alloc ?_ _)); exact BK146.out) hb)
                   have n7_ := Aside0.mk (below_step (by repeat (first | (with_reducible first | exact HB.out | apply below_alloc | apply pw_below_drewN | apply below_drew1 | refine below_set ?_ GE146.out) | exact HB.out)) hb)
                   clear HO_147001
                   clear HO157
                   clear HO160
                   clear HO169
                   clear HO172
                   clear BK146
                   clear HB
                   have HO_147001 := n0_
                   have HO157 := n1_
                   have HO160 := n2_
                   have HO169 := n3_
                   have HO172 := n4_
                   have HO163 := n5_
                   have BK146 := n6_
                   have HB := n7_
                   clear n0_ n1_ n2_ n3_ n4_ n5_ n6_ n7_
                   clear hb ho54
                   refine hK.out _ _ ⟨(blk_cell BK146.out 0).trans rfl, (blk_cell BK146.out 1).trans rfl⟩ (fun hHeld => ?_)
                   clear hK K
                   refine norm_ (a' := ?_) ?_ ?_
                   rotate_left
                   ·show Act.put _ (some 73) _ = _
                    simp only [Act.put, List.setIfInBounds_toArray, List.set_cons_zero, List.set_cons_succ, i64_w, i32_w]
                    rfl
                   exact norm_ (by first | (simp only [putAll, Act.put, List.setIfInBounds_toArray, List.set_cons_zero, List.set_cons_succ]; done) | (simp only [putAll, Act.put, List.setIfInBounds_toArray, List.set_cons_zero, List.set_cons_succ]; rfl)) (hJ0_6_7 (v162, v168, v171) _ ⟨hHeld, (by (with_reducible repeat (first | apply Kd.R_alloc | apply Kd.R_drewN | apply Kd.R_drew)); exact Kd.R_mono HO157.out (fun _ hk => ⟨hk.2, ⟨hk.1.1, hk.1.2⟩⟩)), (by (with_reducible repeat (first | apply Kd.V_alloc | apply Kd.V_drewN | apply Kd.V_drew)); exact Kd.V_mono HO160.out (fun _ hk => ⟨hk.1.1, ⟨hk.2, ⟨hk.1.2.1, ⟨hk.1.2.2.1, ⟨hk.1.2.2.2.1, hk.1.2.2.2.2⟩⟩⟩⟩⟩)), (by (with_reducible repeat (first | apply Kd.R_alloc | apply Kd.R_drewN | apply Kd.R_drew)); exact Kd.R_mono HO163.out (fun _ hk => ⟨hk.1.1.2, ⟨hk.1.2, hk.2⟩⟩)), (by (with_reducible repeat (first | apply Kd.R_alloc | apply Kd.R_drewN | apply Kd.R_drew)); exact Kd.R_mono HO169.out (fun _ hk => ⟨hk.1.1, ⟨hk.2, hk.1.2⟩⟩)), (by (with_reducible repeat (first | apply Kd.R_alloc | apply Kd.R_drewN | apply Kd.R_drew)); exact Kd.R_mono HO172.out (fun _ hk => ⟨hk.1.1, ⟨hk.2, hk.1.2⟩⟩)), (by (with_reducible repeat (first | apply Kd.N_alloc | apply Kd.N_drewN | apply Kd.N_drew)); exact Kd.N_mono HO_147001.out (fun _ hk => ⟨hk.1.1, ⟨hk.2, ⟨hk.1.2.1, ⟨hk.1.2.2.1, hk.1.2.2.2⟩⟩⟩⟩)), (by (with_reducible repeat (first | refine blk_drewN ?_ _ | refine blk_drew ?_ | refine blk_alloc ?_ _)); exact BK146.out), (by repeat (first | (with_reducible first | exact HB.out | apply below_alloc | apply pw_below_drewN | apply below_drew1 | refine below_set ?_ GE146.out) | exact HB.out))⟩)
                 ·skip
                  rintro ⟨v162, v171⟩ w52 ⟨hS_, h0_, h1_, h2_, h3_, h4_, h5_, h6_⟩
                  have n0_ : Aside0 (Kd.R (Kd.int .u8) 5 w52 w.heap.size (fun k_ => some k_ ≠ (v162 : Value).ownBlock ∧ some k_ ≠ (v171 : Value).ownBlock) v156 t155) := ⟨h0_⟩
                  have n1_ : Aside0 (Kd.V (Kd.int .u8) 5 w52 w.heap.size (fun k_ => some k_ ≠ (v156 : Value).ownBlock ∧ some k_ ≠ (v162 : Value).ownBlock ∧ some k_ ≠ (v171 : Value).ownBlock ∧ some k_ ≠ (.slice Ao38 x147001_2.length co38 : Value).ownBlock ∧ k_ ≠ gb146) v159 t158) := ⟨h1_⟩
                  have n2_ : Aside0 (Kd.R (Kd.int .u8) 5 w52 w.heap.size (fun k_ => some k_ ≠ (v156 : Value).ownBlock ∧ some k_ ≠ (v171 : Value).ownBlock) v162 y161) := ⟨h2_⟩
                  have n3_ : Aside0 (Kd.R (Kd.int .u8) 5 w52 w.heap.size (fun k_ => some k_ ≠ (v156 : Value).ownBlock ∧ some k_ ≠ (v162 : Value).ownBlock) v171 y170) := ⟨h3_⟩
                  have n4_ : Aside0 (Kd.N (Kd.slice 5 (Kd.int .u8)) 22 w52 w.heap.size (fun k_ => some k_ ≠ (v156 : Value).ownBlock ∧ some k_ ≠ (v162 : Value).ownBlock ∧ some k_ ≠ (v171 : Value).ownBlock ∧ k_ ≠ gb146) (.slice Ao38 x147001_2.length co38) x147001_2) := ⟨h4_⟩
                  have n5_ : Aside0 (w52.heap[gb146]? = some (.cells #[.int .u8 ((1 + (Int.tmod a0 3)) % 256), .slice Ao38 x147001_2.length co38] 30 (0, 0))) := ⟨h5_⟩
                  have n6_ : Aside0 (Below w.heap.size w w52) := ⟨h6_⟩
                  clear HO_147001
                  clear HO157
                  clear HO160
                  clear BK146
                  clear HB
                  clear h0_ h1_ h2_ h3_ h4_ h5_ h6_
                  have HO157 := n0_
                  have HO160 := n1_
                  have HO163 := n2_
                  have HO172 := n3_
                  have HO_147001 := n4_
                  have BK146 := n5_
                  have HB := n6_
                  clear n0_ n1_ n2_ n3_ n4_ n5_ n6_
                  have hHeld : w52.cell? ⟨gb146, 0, none⟩ = some (.int .u8 ((1 + (Int.tmod a0 3)) % 256)) ∧ w52.cell? ⟨gb146, 1, none⟩ = some (.slice Ao38 x147001_2.length co38) := hS_
                  refine norm_ (a' := ?_) ?_ ?_
                  rotate_left
                  ·simp only [putAll, Act.put, List.setIfInBounds_toArray, List.set_cons_zero, List.set_cons_succ]
                   rfl
                  refine two_ (i := 1) (j := 6) (Ni := some 74) (Nj := some 79) #[true, true, true, true, true, true, false, true, true, false, false, false] #[true, false, true, true, true, true, true, true, true, false, false, false] rfl rfl rfl rfl (two_of HT_.out (by kernel_rfl)) (by decide) (by decide) (fun K hK => ?_) (fun K hK => ?_)
                  ·skip
                   refine markR_step (w0 := w) w.heap.size 5 (by rfl) 22 (.tmp 73) rfl Try.underlying22 Try.underlying5 v162 y161 (fun k_ => some k_ ≠ (v156 : Value).ownBlock ∧ some k_ ≠ (v171 : Value).ownBlock ∧ k_ ≠ gb146) rfl ?aO ?aP ?aB ?aS ?_
                   (case aP => rw [Ny161.out]; decide)
                   (case aB => exact (by repeat (first | (with_reducible first | exact HB.out | apply below_alloc | apply pw_below_drewN | apply below_drew1 | refine below_set ?_ GE146.out) | exact HB.out)))
                   (case aO => exact (by (with_reducible repeat (first | apply Kd.R_alloc | apply Kd.R_drewN | apply Kd.R_drew)); exact Kd.R_mono (Kd.R_types HO163.out BK146.out (by decide)) (fun _ hk => ⟨hk.1.1, ⟨hk.1.2, hk.2⟩⟩)))
                   (case aS => exact (below_size (by repeat (first | (with_reducible first | exact HB.out | apply below_alloc | apply pw_below_drewN | apply below_drew1 | refine below_set ?_ GE146.out) | exact HB.out))))
                   intro v165 w53 ho hb hg hat
                   rw [← Ny164.out] at ho
                   have n0_ := Aside0.mk (Kd.N_afterv (ok := (fun k_ => some k_ ≠ (v156 : Value).ownBlock ∧ some k_ ≠ (v171 : Value).ownBlock ∧ k_ ≠ gb146)) (by (with_reducible repeat (first | apply Kd.N_alloc | apply Kd.N_drewN | apply Kd.N_drew)); exact Kd.N_mono HO_147001.out (fun _ hk => ⟨⟨hk.1, ⟨hk.2.2.1, hk.2.2.2⟩⟩, hk.2.1⟩)) hg hat)
                   have n1_ := Aside0.mk (blk_grown (g := gb146) (o := .cells #[.int .u8 ((1 + (Int.tmod a0 3)) % 256), .slice Ao38 x147001_2.length co38] 30 (0, 0)) (by (with_reducible repeat (first | refine blk_drewN ?_ _ | refine blk_drew ?_ | refine blk_alloc ?_ _)); exact BK146.out) hg (Kd.R_ne HO163.out BK146.out (by decide)))
                   have n2_ := Aside0.mk (Kd.R_after (ok := (fun k_ => some k_ ≠ (v171 : Value).ownBlock)) (by (with_reducible repeat (first | apply Kd.R_alloc | apply Kd.R_drewN | apply Kd.R_drew)); exact Kd.R_mono HO157.out (fun _ hk => ⟨hk.2, hk.1⟩)) hg hat)
                   have n3_ := Aside0.mk (Kd.V_afterv (ok := (fun k_ => some k_ ≠ (.slice Ao38 x147001_2.length co38 : Value).ownBlock ∧ some k_ ≠ (v156 : Value).ownBlock ∧ some k_ ≠ (v171 : Value).ownBlock ∧ k_ ≠ gb146)) (by (with_reducible repeat (first | apply Kd.V_alloc | apply Kd.V_drewN | apply Kd.V_drew)); exact Kd.V_mono HO160.out (fun _ hk => ⟨⟨hk.2.2.2.1, ⟨hk.1, ⟨hk.2.2.1, hk.2.2.2.2⟩⟩⟩, hk.2.1⟩)) hg hat)
                   have n4_ := Aside0.mk (Kd.R_after (ok := (fun k_ => some k_ ≠ (v156 : Value).ownBlock)) (by (with_reducible repeat (first | apply Kd.R_alloc | apply Kd.R_drewN | apply Kd.R_drew)); exact HO172.out) hg hat)
                   have n5_ := Aside0.mk (hb)
                   have n6_ := Aside0.mk (ho)
                   clear HO_147001
                   clear BK146
                   clear HO157
                   clear HO160
                   clear HO172
                   clear HB
                   clear HO163
                   have HO_147001 := n0_
                   have BK146 := n1_
                   have HO157 := n2_
                   have HO160 := n3_
                   have HO172 := n4_
                   have HB := n5_
                   have HO166 := n6_
                   clear n0_ n1_ n2_ n3_ n4_ n5_ n6_
                   clear ho hb hg hat
                   refine hK.out _ _ ⟨(blk_cell BK146.out 0).trans rfl, (blk_cell BK146.out 1).trans rfl⟩ (fun hHeld => ?_)
                   clear hK K
                   refine norm_ (a' := ?_) ?_ ?_
                   rotate_left
                   ·show Act.put _ (some 74) _ = _
                    simp only [Act.put, List.setIfInBounds_toArray, List.set_cons_zero, List.set_cons_succ, i64_w, i32_w]
                    rfl
                   exact norm_ (by first | (simp only [putAll, Act.put, List.setIfInBounds_toArray, List.set_cons_zero, List.set_cons_succ]; done) | (simp only [putAll, Act.put, List.setIfInBounds_toArray, List.set_cons_zero, List.set_cons_succ]; rfl)) (hJ0_1_7 (v162, v165, v171) _ ⟨hHeld, (by (with_reducible repeat (first | apply Kd.R_alloc | apply Kd.R_drewN | apply Kd.R_drew)); exact Kd.R_mono HO157.out (fun _ hk => ⟨hk.2, hk.1⟩)), (by (with_reducible repeat (first | apply Kd.V_alloc | apply Kd.V_drewN | apply Kd.V_drew)); exact Kd.V_mono HO160.out (fun _ hk => ⟨hk.1.2.1, ⟨hk.2, ⟨hk.1.2.2.1, ⟨hk.1.1, hk.1.2.2.2⟩⟩⟩⟩)), (by (with_reducible repeat (first | apply Kd.V_alloc | apply Kd.V_drewN | apply Kd.V_drew)); exact HO166.out), (by (with_reducible repeat (first | apply Kd.R_alloc | apply Kd.R_drewN | apply Kd.R_drew)); exact Kd.R_mono HO172.out (fun _ hk => hk.1)), (by (with_reducible repeat (first | apply Kd.N_alloc | apply Kd.N_drewN | apply Kd.N_drew)); exact Kd.N_mono HO_147001.out (fun _ hk => ⟨hk.1.1, ⟨hk.2, ⟨hk.1.2.1, hk.1.2.2⟩⟩⟩)), (by (with_reducible repeat (first | refine blk_drewN ?_ _ | refine blk_drew ?_ | refine blk_alloc ?_ _)); exact BK146.out), (by repeat (first | (with_reducible first | exact HB.out | apply below_alloc | apply pw_below_drewN | apply below_drew1 | refine below_set ?_ GE146.out) | exact HB.out))⟩)
                  ·skip
                   refine Kd.R_lit_step (Kd.int .u8) _ 5 ?hg (N := 79) ?hd (xs := ([((x147001_2.length : Int)) % 256] : List Int)) (inner := [.int .u8 (((x147001_2.length : Int)) % 256)]) (ok := fun _ => True) (okp := fun _ => True) ?hr ?hp (fun _ hk => hk) trivial (Below.refl _ _) (Nat.le_refl _) (by simp) ?_; (case hd => rfl); (case hg => rfl); (case hr => first | (go_simp; done) | (go_simp; rfl)); (case hp => exact (Reps.one (show Kd.M (Kd.int .u8) _ _ _ (((x147001_2.length : Int)) % 256) [.int .u8 (((x147001_2.length : Int)) % 256)] from rfl) (Reps.none _ _)))
                   intro v168 w53 ho54 hb hg_ hnew_
                   clear hg_ hnew_
                   (first | rw [← Ny167.out] at ho54 | (simp only [Int.reduceToNat] at ho54; rw [← Ny167.out] at ho54))
                   have n0_ := Aside0.mk (Kd.N_elder' (by (with_reducible repeat (first | apply Kd.N_alloc | apply Kd.N_drewN | apply Kd.N_drew)); exact HO_147001.out) (Kd.R_base ho54) hb)
                   have n1_ := Aside0.mk (Kd.R_elder' (by (with_reducible repeat (first | apply Kd.R_alloc | apply Kd.R_drewN | apply Kd.R_drew)); exact HO157.out) (Kd.R_base ho54) hb)
                   have n2_ := Aside0.mk (Kd.V_elder' (by (with_reducible repeat (first | apply Kd.V_alloc | apply Kd.V_drewN | apply Kd.V_drew)); exact HO160.out) (Kd.R_base ho54) hb)
                   have n3_ := Aside0.mk (Kd.R_elder' (by (with_reducible repeat (first | apply Kd.R_alloc | apply Kd.R_drewN | apply Kd.R_drew)); exact HO163.out) (Kd.R_base ho54) hb)
                   have n4_ := Aside0.mk (Kd.R_elder' (by (with_reducible repeat (first | apply Kd.R_alloc | apply Kd.R_drewN | apply Kd.R_drew)); exact HO172.out) (Kd.R_base ho54) hb)
                   have n5_ := Aside0.mk (Kd.R_lower (Kd.R_new' (Kd.R_new' (Kd.R_new' ho54 (Kd.R_lt (by (with_reducible repeat (first | apply Kd.R_alloc | apply Kd.R_drewN | apply Kd.R_drew)); exact HO157.out))) (Kd.R_lt (by (with_reducible repeat (first | apply Kd.R_alloc | apply Kd.R_drewN | apply Kd.R_drew)); exact HO163.out))) (Kd.R_lt (by (with_reducible repeat (first | apply Kd.R_alloc | apply Kd.R_drewN | apply Kd.R_drew)); exact HO172.out))) (below_size (by repeat (first | (with_reducible first | exact HB.out | apply below_alloc | apply pw_below_drewN | apply below_drew1 | refine below_set ?_ GE146.out) | exact HB.out))))
                   have n6_ := Aside0.mk (blk_below (g := gb146) (o := .cells #[.int .u8 ((1 + (Int.tmod a0 3)) % 256), .slice Ao38 x147001_2.length co38] 30 (0, 0)) (by (with_reducible repeat (first | refine blk_drewN ?_ _ | refine blk_drew ?_ | refine blk_alloc ?_ _)); exact BK146.out) hb)
                   have n7_ := Aside0.mk (below_step (by repeat (first | (with_reducible first | exact HB.out | apply below_alloc | apply pw_below_drewN | apply below_drew1 | refine below_set ?_ GE146.out) | exact HB.out)) hb)
                   clear HO_147001
                   clear HO157
                   clear HO160
                   clear HO163
                   clear HO172
                   clear BK146
                   clear HB
                   have HO_147001 := n0_
                   have HO157 := n1_
                   have HO160 := n2_
                   have HO163 := n3_
                   have HO172 := n4_
                   have HO169 := n5_
                   have BK146 := n6_
                   have HB := n7_
                   clear n0_ n1_ n2_ n3_ n4_ n5_ n6_ n7_
                   clear hb ho54
                   refine hK.out _ _ ⟨(blk_cell BK146.out 0).trans rfl, (blk_cell BK146.out 1).trans rfl⟩ (fun hHeld => ?_)
                   clear hK K
                   refine norm_ (a' := ?_) ?_ ?_
                   rotate_left
                   ·show Act.put _ (some 79) _ = _
                    simp only [Act.put, List.setIfInBounds_toArray, List.set_cons_zero, List.set_cons_succ, i64_w, i32_w]
                    rfl
                   exact norm_ (by first | (simp only [putAll, Act.put, List.setIfInBounds_toArray, List.set_cons_zero, List.set_cons_succ]; done) | (simp only [putAll, Act.put, List.setIfInBounds_toArray, List.set_cons_zero, List.set_cons_succ]; rfl)) (hJ0_6_7 (v162, v168, v171) _ ⟨hHeld, (by (with_reducible repeat (first | apply Kd.R_alloc | apply Kd.R_drewN | apply Kd.R_drew)); exact Kd.R_mono HO157.out (fun _ hk => ⟨hk.1.1, ⟨hk.2, hk.1.2⟩⟩)), (by (with_reducible repeat (first | apply Kd.V_alloc | apply Kd.V_drewN | apply Kd.V_drew)); exact Kd.V_mono HO160.out (fun _ hk => ⟨hk.1.1, ⟨hk.1.2.1, ⟨hk.2, ⟨hk.1.2.2.1, ⟨hk.1.2.2.2.1, hk.1.2.2.2.2⟩⟩⟩⟩⟩)), (by (with_reducible repeat (first | apply Kd.R_alloc | apply Kd.R_drewN | apply Kd.R_drew)); exact Kd.R_mono HO163.out (fun _ hk => ⟨hk.1.1, ⟨hk.2, hk.1.2⟩⟩)), (by (with_reducible repeat (first | apply Kd.R_alloc | apply Kd.R_drewN | apply Kd.R_drew)); exact Kd.R_mono HO169.out (fun _ hk => ⟨hk.1.1.2, ⟨hk.1.2, hk.2⟩⟩)), (by (with_reducible repeat (first | apply Kd.R_alloc | apply Kd.R_drewN | apply Kd.R_drew)); exact Kd.R_mono HO172.out (fun _ hk => ⟨hk.1.1, ⟨hk.1.2, hk.2⟩⟩)), (by (with_reducible repeat (first | apply Kd.N_alloc | apply Kd.N_drewN | apply Kd.N_drew)); exact Kd.N_mono HO_147001.out (fun _ hk => ⟨hk.1.1, ⟨hk.1.2.1, ⟨hk.2, ⟨hk.1.2.2.1, hk.1.2.2.2⟩⟩⟩⟩)), (by (with_reducible repeat (first | refine blk_drewN ?_ _ | refine blk_drew ?_ | refine blk_alloc ?_ _)); exact BK146.out), (by repeat (first | (with_reducible first | exact HB.out | apply below_alloc | apply pw_below_drewN | apply below_drew1 | refine below_set ?_ GE146.out) | exact HB.out))⟩)
                ·skip
                 rintro ⟨v162, v168⟩ w52 ⟨hS_, h0_, h1_, h2_, h3_, h4_, h5_, h6_⟩
                 have n0_ : Aside0 (Kd.R (Kd.int .u8) 5 w52 w.heap.size (fun k_ => some k_ ≠ (v162 : Value).ownBlock ∧ some k_ ≠ (v168 : Value).ownBlock) v156 t155) := ⟨h0_⟩
                 have n1_ : Aside0 (Kd.V (Kd.int .u8) 5 w52 w.heap.size (fun k_ => some k_ ≠ (v156 : Value).ownBlock ∧ some k_ ≠ (v162 : Value).ownBlock ∧ some k_ ≠ (v168 : Value).ownBlock ∧ some k_ ≠ (.slice Ao38 x147001_2.length co38 : Value).ownBlock ∧ k_ ≠ gb146) v159 t158) := ⟨h1_⟩
                 have n2_ : Aside0 (Kd.R (Kd.int .u8) 5 w52 w.heap.size (fun k_ => some k_ ≠ (v156 : Value).ownBlock ∧ some k_ ≠ (v168 : Value).ownBlock) v162 y161) := ⟨h2_⟩
                 have n3_ : Aside0 (Kd.R (Kd.int .u8) 5 w52 w.heap.size (fun k_ => some k_ ≠ (v156 : Value).ownBlock ∧ some k_ ≠ (v162 : Value).ownBlock) v168 y167) := ⟨h3_⟩
                 have n4_ : Aside0 (Kd.N (Kd.slice 5 (Kd.int .u8)) 22 w52 w.heap.size (fun k_ => some k_ ≠ (v156 : Value).ownBlock ∧ some k_ ≠ (v162 : Value).ownBlock ∧ some k_ ≠ (v168 : Value).ownBlock ∧ k_ ≠ gb146) (.slice Ao38 x147001_2.length co38) x147001_2) := ⟨h4_⟩
                 have n5_ : Aside0 (w52.heap[gb146]? = some (.cells #[.int .u8 ((1 + (Int.tmod a0 3)) % 256), .slice Ao38 x147001_2.length co38] 30 (0, 0))) := ⟨h5_⟩
                 have n6_ : Aside0 (Below w.heap.size w w52) := ⟨h6_⟩
                 clear HO_147001
                 clear HO157
                 clear HO160
                 clear BK146
                 clear HB
                 clear h0_ h1_ h2_ h3_ h4_ h5_ h6_
                 have HO157 := n0_
                 have HO160 := n1_
                 have HO163 := n2_
                 have HO169 := n3_
                 have HO_147001 := n4_
                 have BK146 := n5_
                 have HB := n6_
                 clear n0_ n1_ n2_ n3_ n4_ n5_ n6_
                 have hHeld : w52.cell? ⟨gb146, 0, none⟩ = some (.int .u8 ((1 + (Int.tmod a0 3)) % 256)) ∧ w52.cell? ⟨gb146, 1, none⟩ = some (.slice Ao38 x147001_2.length co38) := hS_
                 refine norm_ (a' := ?_) ?_ ?_
                 rotate_left
                 ·simp only [putAll, Act.put, List.setIfInBounds_toArray, List.set_cons_zero, List.set_cons_succ]
                  rfl
                 refine two_ (i := 1) (j := 7) (Ni := some 74) (Nj := some 80) #[true, true, true, true, true, true, true, false, true, false, false, false] #[true, false, true, true, true, true, true, true, true, false, false, false] rfl rfl rfl rfl (two_of HT_.out (by kernel_rfl)) (by decide) (by decide) (fun K hK => ?_) (fun K hK => ?_)
                 ·skip
                  refine markR_step (w0 := w) w.heap.size 5 (by rfl) 22 (.tmp 73) rfl Try.underlying22 Try.underlying5 v162 y161 (fun k_ => some k_ ≠ (v156 : Value).ownBlock ∧ some k_ ≠ (v168 : Value).ownBlock ∧ k_ ≠ gb146) rfl ?aO ?aP ?aB ?aS ?_
                  (case aP => rw [Ny161.out]; decide)
                  (case aB => exact (by repeat (first | (with_reducible first | exact HB.out | apply below_alloc | apply pw_below_drewN | apply below_drew1 | refine below_set ?_ GE146.out) | exact HB.out)))
                  (case aO => exact (by (with_reducible repeat (first | apply Kd.R_alloc | apply Kd.R_drewN | apply Kd.R_drew)); exact Kd.R_mono (Kd.R_types HO163.out BK146.out (by decide)) (fun _ hk => ⟨hk.1.1, ⟨hk.1.2, hk.2⟩⟩)))
                  (case aS => exact (below_size (by repeat (first | (with_reducible first | exact HB.out | apply below_alloc | apply pw_below_drewN | apply below_drew1 | refine below_set ?_ GE146.out) | exact HB.out))))
                  intro v165 w53 ho hb hg hat
                  rw [← Ny164.out] at ho
                  have n0_ := Aside0.mk (Kd.N_afterv (ok := (fun k_ => some k_ ≠ (v156 : Value).ownBlock ∧ some k_ ≠ (v168 : Value).ownBlock ∧ k_ ≠ gb146)) (by (with_reducible repeat (first | apply Kd.N_alloc | apply Kd.N_drewN | apply Kd.N_drew)); exact Kd.N_mono HO_147001.out (fun _ hk => ⟨⟨hk.1, ⟨hk.2.2.1, hk.2.2.2⟩⟩, hk.2.1⟩)) hg hat)
                  have n1_ := Aside0.mk (blk_grown (g := gb146) (o := .cells #[.int .u8 ((1 + (Int.tmod a0 3)) % 256), .slice Ao38 x147001_2.length co38] 30 (0, 0)) (by (with_reducible repeat (first | refine blk_drewN ?_ _ | refine blk_drew ?_ | refine blk_alloc ?_ _)); exact BK146.out) hg (Kd.R_ne HO163.out BK146.out (by decide)))
                  have n2_ := Aside0.mk (Kd.R_after (ok := (fun k_ => some k_ ≠ (v168 : Value).ownBlock)) (by (with_reducible repeat (first | apply Kd.R_alloc | apply Kd.R_drewN | apply Kd.R_drew)); exact Kd.R_mono HO157.out (fun _ hk => ⟨hk.2, hk.1⟩)) hg hat)
                  have n3_ := Aside0.mk (Kd.V_afterv (ok := (fun k_ => some k_ ≠ (.slice Ao38 x147001_2.length co38 : Value).ownBlock ∧ some k_ ≠ (v156 : Value).ownBlock ∧ some k_ ≠ (v168 : Value).ownBlock ∧ k_ ≠ gb146)) (by (with_reducible repeat (first | apply Kd.V_alloc | apply Kd.V_drewN | apply Kd.V_drew)); exact Kd.V_mono HO160.out (fun _ hk => ⟨⟨hk.2.2.2.1, ⟨hk.1, ⟨hk.2.2.1, hk.2.2.2.2⟩⟩⟩, hk.2.1⟩)) hg hat)
                  have n4_ := Aside0.mk (Kd.R_after (ok := (fun k_ => some k_ ≠ (v156 : Value).ownBlock)) (by (with_reducible repeat (first | apply Kd.R_alloc | apply Kd.R_drewN | apply Kd.R_drew)); exact HO169.out) hg hat)
                  have n5_ := Aside0.mk (hb)
                  have n6_ := Aside0.mk (ho)
                  clear HO_147001
                  clear BK146
                  clear HO157
                  clear HO160
                  clear HO169
                  clear HB
                  clear HO163
                  have HO_147001 := n0_
                  have BK146 := n1_
                  have HO157 := n2_
                  have HO160 := n3_
                  have HO169 := n4_
                  have HB := n5_
                  have HO166 := n6_
                  clear n0_ n1_ n2_ n3_ n4_ n5_ n6_
                  clear ho hb hg hat
                  refine hK.out _ _ ⟨(blk_cell BK146.out 0).trans rfl, (blk_cell BK146.out 1).trans rfl⟩ (fun hHeld => ?_)
                  clear hK K
                  refine norm_ (a' := ?_) ?_ ?_
                  rotate_left
                  ·show Act.put _ (some 74) _ = _
                   simp only [Act.put, List.setIfInBounds_toArray, List.set_cons_zero, List.set_cons_succ, i64_w, i32_w]
                   rfl
                  exact norm_ (by first | (simp only [putAll, Act.put, List.setIfInBounds_toArray, List.set_cons_zero, List.set_cons_succ]; done) | (simp only [putAll, Act.put, List.setIfInBounds_toArray, List.set_cons_zero, List.set_cons_succ]; rfl)) (hJ0_1_6 (v162, v165, v168) _ ⟨hHeld, (by (with_reducible repeat (first | apply Kd.R_alloc | apply Kd.R_drewN | apply Kd.R_drew)); exact Kd.R_mono HO157.out (fun _ hk => ⟨hk.2, hk.1⟩)), (by (with_reducible repeat (first | apply Kd.V_alloc | apply Kd.V_drewN | apply Kd.V_drew)); exact Kd.V_mono HO160.out (fun _ hk => ⟨hk.1.2.1, ⟨hk.2, ⟨hk.1.2.2.1, ⟨hk.1.1, hk.1.2.2.2⟩⟩⟩⟩)), (by (with_reducible repeat (first | apply Kd.V_alloc | apply Kd.V_drewN | apply Kd.V_drew)); exact HO166.out), (by (with_reducible repeat (first | apply Kd.R_alloc | apply Kd.R_drewN | apply Kd.R_drew)); exact Kd.R_mono HO169.out (fun _ hk => hk.1)), (by (with_reducible repeat (first | apply Kd.N_alloc | apply Kd.N_drewN | apply Kd.N_drew)); exact Kd.N_mono HO_147001.out (fun _ hk => ⟨hk.1.1, ⟨hk.2, ⟨hk.1.2.1, hk.1.2.2⟩⟩⟩)), (by (with_reducible repeat (first | refine blk_drewN ?_ _ | refine blk_drew ?_ | refine blk_alloc ?_ _)); exact BK146.out), (by repeat (first | (with_reducible first | exact HB.out | apply below_alloc | apply pw_below_drewN | apply below_drew1 | refine below_set ?_ GE146.out) | exact HB.out))⟩)
                 ·skip
                  refine Kd.R_make_step (Kd.int .u8) _ 5 (by rfl) (N := 80) rfl 22 _ _ rfl 11 rfl rfl Try.underlying22 (.int .u8 0) 1 info5 rfl (by decide) (by omega) 0 (ok := fun _ => True) (okp := fun _ => True) rfl (fun _ hk => hk) trivial (by omega) (by omega) (Below.refl _ _) (Nat.le_refl _) ?_
                  intro v171 w53 ho54 hb hg_ hnew_
                  clear hg_ hnew_
                  (first | rw [← Ny170.out] at ho54 | (simp only [Int.reduceToNat] at ho54; rw [← Ny170.out] at ho54))
                  have n0_ := Aside0.mk (Kd.N_elder' (by (with_reducible repeat (first | apply Kd.N_alloc | apply Kd.N_drewN | apply Kd.N_drew)); exact HO_147001.out) (Kd.R_base ho54) hb)
                  have n1_ := Aside0.mk (Kd.R_elder' (by (with_reducible repeat (first | apply Kd.R_alloc | apply Kd.R_drewN | apply Kd.R_drew)); exact HO157.out) (Kd.R_base ho54) hb)
                  have n2_ := Aside0.mk (Kd.V_elder' (by (with_reducible repeat (first | apply Kd.V_alloc | apply Kd.V_drewN | apply Kd.V_drew)); exact HO160.out) (Kd.R_base ho54) hb)
                  have n3_ := Aside0.mk (Kd.R_elder' (by (with_reducible repeat (first | apply Kd.R_alloc | apply Kd.R_drewN | apply Kd.R_drew)); exact HO163.out) (Kd.R_base ho54) hb)
                  have n4_ := Aside0.mk (Kd.R_elder' (by (with_reducible repeat (first | apply Kd.R_alloc | apply Kd.R_drewN | apply Kd.R_drew)); exact HO169.out) (Kd.R_base ho54) hb)
                  have n5_ := Aside0.mk (Kd.R_lower (Kd.R_new' (Kd.R_new' (Kd.R_new' ho54 (Kd.R_lt (by (with_reducible repeat (first | apply Kd.R_alloc | apply Kd.R_drewN | apply Kd.R_drew)); exact HO157.out))) (Kd.R_lt (by (with_reducible repeat (first | apply Kd.R_alloc | apply Kd.R_drewN | apply Kd.R_drew)); exact HO163.out))) (Kd.R_lt (by (with_reducible repeat (first | apply Kd.R_alloc | apply Kd.R_drewN | apply Kd.R_drew)); exact HO169.out))) (below_size (by repeat (first | (with_reducible first | exact HB.out | apply below_alloc | apply pw_below_drewN | apply below_drew1 | refine below_set ?_ GE146.out) | exact HB.out))))
                  have n6_ := Aside0.mk (blk_below (g := gb146) (o := .cells #[.int .u8 ((1 + (Int.tmod a0 3)) % 256), .slice Ao38 x147001_2.length co38] 30 (0, 0)) (by (with_reducible repeat (first | refine blk_drewN ?_ _ | refine blk_drew ?_ | refine blk_alloc ?_ _)); exact BK146.out) hb)
                  have n7_ := Aside0.mk (below_step (by repeat (first | (with_reducible first | exact HB.out | apply below_alloc | apply pw_below_drewN | apply below_drew1 | refine below_set ?_ GE146.out) | exact HB.out)) hb)
                  clear HO_147001
                  clear HO157
                  clear HO160
                  clear HO163
                  clear HO169
                  clear BK146
                  clear HB
                  have HO_147001 := n0_
                  have HO157 := n1_
                  have HO160 := n2_
                  have HO163 := n3_
                  have HO169 := n4_
                  have HO172 := n5_
                  have BK146 := n6_
                  have HB := n7_
                  clear n0_ n1_ n2_ n3_ n4_ n5_ n6_ n7_
                  clear hb ho54
                  refine hK.out _ _ ⟨(blk_cell BK146.out 0).trans rfl, (blk_cell BK146.out 1).trans rfl⟩ (fun hHeld => ?_)
                  clear hK K
                  refine norm_ (a' := ?_) ?_ ?_
                  rotate_left
                  ·show Act.put _ (some 80) _ = _
                   simp only [Act.put, List.setIfInBounds_toArray, List.set_cons_zero, List.set_cons_succ, i64_w, i32_w]
                   rfl
                  exact norm_ (by first | (simp only [putAll, Act.put, List.setIfInBounds_toArray, List.set_cons_zero, List.set_cons_succ]; done) | (simp only [putAll, Act.put, List.setIfInBounds_toArray, List.set_cons_zero, List.set_cons_succ]; rfl)) (hJ0_6_7 (v162, v168, v171) _ ⟨hHeld, (by (with_reducible repeat (first | apply Kd.R_alloc | apply Kd.R_drewN | apply Kd.R_drew)); exact Kd.R_mono HO157.out (fun _ hk => ⟨hk.1.1, ⟨hk.1.2, hk.2⟩⟩)), (by (with_reducible repeat (first | apply Kd.V_alloc | apply Kd.V_drewN | apply Kd.V_drew)); exact Kd.V_mono HO160.out (fun _ hk => ⟨hk.1.1, ⟨hk.1.2.1, ⟨hk.1.2.2.1, ⟨hk.2, ⟨hk.1.2.2.2.1, hk.1.2.2.2.2⟩⟩⟩⟩⟩)), (by (with_reducible repeat (first | apply Kd.R_alloc | apply Kd.R_drewN | apply Kd.R_drew)); exact Kd.R_mono HO163.out (fun _ hk => ⟨hk.1.1, ⟨hk.1.2, hk.2⟩⟩)), (by (with_reducible repeat (first | apply Kd.R_alloc | apply Kd.R_drewN | apply Kd.R_drew)); exact Kd.R_mono HO169.out (fun _ hk => ⟨hk.1.1, ⟨hk.1.2, hk.2⟩⟩)), (by (with_reducible repeat (first | apply Kd.R_alloc | apply Kd.R_drewN | apply Kd.R_drew)); exact Kd.R_mono HO172.out (fun _ hk => ⟨hk.1.1.2, ⟨hk.1.2, hk.2⟩⟩)), (by (with_reducible repeat (first | apply Kd.N_alloc | apply Kd.N_drewN | apply Kd.N_drew)); exact Kd.N_mono HO_147001.out (fun _ hk => ⟨hk.1.1, ⟨hk.1.2.1, ⟨hk.1.2.2.1, ⟨hk.2, hk.1.2.2.2⟩⟩⟩⟩)), (by (with_reducible repeat (first | refine blk_drewN ?_ _ | refine blk_drew ?_ | refine blk_alloc ?_ _)); exact BK146.out), (by repeat (first | (with_reducible first | exact HB.out | apply below_alloc | apply pw_below_drewN | apply below_drew1 | refine below_set ?_ GE146.out) | exact HB.out))⟩)
               ·skip
                rintro ⟨v162, v165⟩ w51 ⟨hS_, h0_, h1_, h2_, h3_, h4_, h5_⟩
                have n0_ : Aside0 (Kd.R (Kd.int .u8) 5 w51 w.heap.size (fun k_ => some k_ ≠ (v165 : Value).ownBlock) v156 t155) := ⟨h0_⟩
                have n1_ : Aside0 (Kd.V (Kd.int .u8) 5 w51 w.heap.size (fun k_ => some k_ ≠ (v156 : Value).ownBlock ∧ some k_ ≠ (v165 : Value).ownBlock ∧ some k_ ≠ (.slice Ao38 x147001_2.length co38 : Value).ownBlock ∧ k_ ≠ gb146) v159 t158) := ⟨h1_⟩
                have n2_ : Aside0 (Kd.V (Kd.int .u8) 5 w51 w.heap.size (fun k_ => some k_ ≠ (v156 : Value).ownBlock ∧ k_ ≠ gb146) v165 y164) := ⟨h2_⟩
                have n3_ : Aside0 (Kd.N (Kd.slice 5 (Kd.int .u8)) 22 w51 w.heap.size (fun k_ => some k_ ≠ (v156 : Value).ownBlock ∧ some k_ ≠ (v165 : Value).ownBlock ∧ k_ ≠ gb146) (.slice Ao38 x147001_2.length co38) x147001_2) := ⟨h3_⟩
                have n4_ : Aside0 (w51.heap[gb146]? = some (.cells #[.int .u8 ((1 + (Int.tmod a0 3)) % 256), .slice Ao38 x147001_2.length co38] 30 (0, 0))) := ⟨h4_⟩
                have n5_ : Aside0 (Below w.heap.size w w51) := ⟨h5_⟩
                clear HO_147001
                clear HO157
                clear HO160
                clear BK146
                clear HB
                clear h0_ h1_ h2_ h3_ h4_ h5_
                have HO157 := n0_
                have HO160 := n1_
                have HO166 := n2_
                have HO_147001 := n3_
                have BK146 := n4_
                have HB := n5_
                clear n0_ n1_ n2_ n3_ n4_ n5_
                have hHeld : w51.cell? ⟨gb146, 0, none⟩ = some (.int .u8 ((1 + (Int.tmod a0 3)) % 256)) ∧ w51.cell? ⟨gb146, 1, none⟩ = some (.slice Ao38 x147001_2.length co38) := hS_
                refine norm_ (a' := ?_) ?_ ?_
                rotate_left
                ·simp only [putAll, Act.put, List.setIfInBounds_toArray, List.set_cons_zero, List.set_cons_succ]
                 rfl
                refine two_ (i := 6) (j := 7) (Ni := some 79) (Nj := some 80) #[true, true, true, true, true, true, true, false, true, false, false, false] #[true, true, true, true, true, true, false, true, true, false, false, false] rfl rfl rfl rfl (two_of HT_.out (by kernel_rfl)) (by decide) (by decide) (fun K hK => ?_) (fun K hK => ?_)
                ·skip
                 refine Kd.R_lit_step (Kd.int .u8) _ 5 ?hg (N := 79) ?hd (xs := ([((x147001_2.length : Int)) % 256] : List Int)) (inner := [.int .u8 (((x147001_2.length : Int)) % 256)]) (ok := fun _ => True) (okp := fun _ => True) ?hr ?hp (fun _ hk => hk) trivial (Below.refl _ _) (Nat.le_refl _) (by simp) ?_; (case hd => rfl); (case hg => rfl); (case hr => first | (go_simp; done) | (go_simp; rfl)); (case hp => exact (Reps.one (show Kd.M (Kd.int .u8) _ _ _ (((x147001_2.length : Int)) % 256) [.int .u8 (((x147001_2.length : Int)) % 256)] from rfl) (Reps.none _ _)))
                 intro v168 w52 ho53 hb hg_ hnew_
                 clear hg_ hnew_
                 (first | rw [← Ny167.out] at ho53 | (simp only [Int.reduceToNat] at ho53; rw [← Ny167.out] at ho53))
                 have n0_ := Aside0.mk (Kd.N_elder' (by (with_reducible repeat (first | apply Kd.N_alloc | apply Kd.N_drewN | apply Kd.N_drew)); exact HO_147001.out) (Kd.R_base ho53) hb)
                 have n1_ := Aside0.mk (Kd.R_elder' (by (with_reducible repeat (first | apply Kd.R_alloc | apply Kd.R_drewN | apply Kd.R_drew)); exact HO157.out) (Kd.R_base ho53) hb)
                 have n2_ := Aside0.mk (Kd.V_elder' (by (with_reducible repeat (first | apply Kd.V_alloc | apply Kd.V_drewN | apply Kd.V_drew)); exact HO160.out) (Kd.R_base ho53) hb)
                 have n3_ := Aside0.mk (Kd.V_elder' (by (with_reducible repeat (first | apply Kd.V_alloc | apply Kd.V_drewN | apply Kd.V_drew)); exact HO166.out) (Kd.R_base ho53) hb)
                 have n4_ := Aside0.mk (Kd.R_lower (Kd.R_new' ho53 (Kd.R_lt (by (with_reducible repeat (first | apply Kd.R_alloc | apply Kd.R_drewN | apply Kd.R_drew)); exact HO157.out))) (below_size (by repeat (first | (with_reducible first | exact HB.out | apply below_alloc | apply pw_below_drewN | apply below_drew1 | refine below_set ?_ GE146.out) | exact HB.out))))
                 have n5_ := Aside0.mk (blk_below (g := gb146) (o := .cells #[.int .u8 ((1 + (Int.tmod a0 3)) % 256), .slice Ao38 x147001_2.length co38] 30 (0, 0)) (by (with_reducible repeat (first | refine blk_drewN ?_ _ | refine blk_drew ?_ | refine blk_alloc ?_ _)); exact BK146.out) hb)
                 have n6_ := Aside0.mk (below_step (by repeat (first | (with_reducible first | exact HB.out | apply below_alloc | apply pw_below_drewN | apply below_drew1 | refine below_set ?_ GE146.out) | exact HB.out)) hb)
                 clear HO_147001
                 clear HO157
                 clear HO160
                 clear HO166
                 clear BK146
                 clear HB
                 have HO_147001 := n0_
                 have HO157 := n1_
                 have HO160 := n2_
                 have HO166 := n3_
                 have HO169 := n4_
                 have BK146 := n5_
                 have HB := n6_
                 clear n0_ n1_ n2_ n3_ n4_ n5_ n6_
                 clear hb ho53
                 refine hK.out _ _ ⟨(blk_cell BK146.out 0).trans rfl, (blk_cell BK146.out 1).trans rfl⟩ (fun hHeld => ?_)
                 clear hK K
                 refine norm_ (a' := ?_) ?_ ?_
                 rotate_left
                 ·show Act.put _ (some 79) _ = _
                  simp only [Act.put, List.setIfInBounds_toArray, List.set_cons_zero, List.set_cons_succ, i64_w, i32_w]
                  rfl
                 exact norm_ (by first | (simp only [putAll, Act.put, List.setIfInBounds_toArray, List.set_cons_zero, List.set_cons_succ]; done) | (simp only [putAll, Act.put, List.setIfInBounds_toArray, List.set_cons_zero, List.set_cons_succ]; rfl)) (hJ0_1_6 (v162, v165, v168) _ ⟨hHeld, (by (with_reducible repeat (first | apply Kd.R_alloc | apply Kd.R_drewN | apply Kd.R_drew)); exact HO157.out), (by (with_reducible repeat (first | apply Kd.V_alloc | apply Kd.V_drewN | apply Kd.V_drew)); exact Kd.V_mono HO160.out (fun _ hk => ⟨hk.1.1, ⟨hk.1.2.1, ⟨hk.2, ⟨hk.1.2.2.1, hk.1.2.2.2⟩⟩⟩⟩)), (by (with_reducible repeat (first | apply Kd.V_alloc | apply Kd.V_drewN | apply Kd.V_drew)); exact Kd.V_mono HO166.out (fun _ hk => ⟨hk.1.1, ⟨hk.2, hk.1.2⟩⟩)), (by (with_reducible repeat (first | apply Kd.R_alloc | apply Kd.R_drewN | apply Kd.R_drew)); exact Kd.R_mono HO169.out (fun _ hk => hk.2)), (by (with_reducible repeat (first | apply Kd.N_alloc | apply Kd.N_drewN | apply Kd.N_drew)); exact Kd.N_mono HO_147001.out (fun _ hk => ⟨hk.1.1, ⟨hk.1.2.1, ⟨hk.2, hk.1.2.2⟩⟩⟩)), (by (with_reducible repeat (first | refine blk_drewN ?_ _ | refine blk_drew ?_ | refine blk_alloc ?_ _)); exact BK146.out), (by repeat (first | (with_reducible first | exact HB.out | apply below_alloc | apply pw_below_drewN | apply below_drew1 | refine below_set ?_ GE146.out) | exact HB.out))⟩)
                ·skip
                 refine Kd.R_make_step (Kd.int .u8) _ 5 (by rfl) (N := 80) rfl 22 _ _ rfl 11 rfl rfl Try.underlying22 (.int .u8 0) 1 info5 rfl (by decide) (by omega) 0 (ok := fun _ => True) (okp := fun _ => True) rfl (fun _ hk => hk) trivial (by omega) (by omega) (Below.refl _ _) (Nat.le_refl _) ?_
                 intro v171 w52 ho53 hb hg_ hnew_
                 clear hg_ hnew_
                 (first | rw [← Ny170.out] at ho53 | (simp only [Int.reduceToNat] at ho53; rw [← Ny170.out] at ho53))
                 have n0_ := Aside0.mk (Kd.N_elder' (by (with_reducible repeat (first | apply Kd.N_alloc | apply Kd.N_drewN | apply Kd.N_drew)); exact HO_147001.out) (Kd.R_base ho53) hb)
                 have n1_ := Aside0.mk (Kd.R_elder' (by (with_reducible repeat (first | apply Kd.R_alloc | apply Kd.R_drewN | apply Kd.R_drew)); exact HO157.out) (Kd.R_base ho53) hb)
                 have n2_ := Aside0.mk (Kd.V_elder' (by (with_reducible repeat (first | apply Kd.V_alloc | apply Kd.V_drewN | apply Kd.V_drew)); exact HO160.out) (Kd.R_base ho53) hb)
                 have n3_ := Aside0.mk (Kd.V_elder' (by (with_reducible repeat (first | apply Kd.V_alloc | apply Kd.V_drewN | apply Kd.V_drew)); exact HO166.out) (Kd.R_base ho53) hb)
                 have n4_ := Aside0.mk (Kd.R_lower (Kd.R_new' ho53 (Kd.R_lt (by (with_reducible repeat (first | apply Kd.R_alloc | apply Kd.R_drewN | apply Kd.R_drew)); exact HO157.out))) (below_size (by repeat (first | (with_reducible first | exact HB.out | apply below_alloc | apply pw_below_drewN | apply below_drew1 | refine below_set ?_ GE146.out) | exact HB.out))))
                 have n5_ := Aside0.mk (blk_below (g := gb146) (o := .cells #[.int .u8 ((1 + (Int.tmod a0 3)) % 256), .slice Ao38 x147001_2.length co38] 30 (0, 0)) (by (with_reducible repeat (first | refine blk_drewN ?_ _ | refine blk_drew ?_ | refine blk_alloc ?_ _)); exact BK146.out) hb)
                 have n6_ := Aside0.mk (below_step (by repeat (first | (with_reducible first | exact HB.out | apply below_alloc | apply pw_below_drewN | apply below_drew1 | refine below_set ?_ GE146.out) | exact HB.out)) hb)
                 clear HO_147001
                 clear HO157
                 clear HO160
                 clear HO166
                 clear BK146
                 clear HB
                 have HO_147001 := n0_
                 have HO157 := n1_
                 have HO160 := n2_
                 have HO166 := n3_
                 have HO172 := n4_
                 have BK146 := n5_
                 have HB := n6_
                 clear n0_ n1_ n2_ n3_ n4_ n5_ n6_
                 clear hb ho53
                 refine hK.out _ _ ⟨(blk_cell BK146.out 0).trans rfl, (blk_cell BK146.out 1).trans rfl⟩ (fun hHeld => ?_)
                 clear hK K
                 refine norm_ (a' := ?_) ?_ ?_
                 rotate_left
                 ·show Act.put _ (some 80) _ = _
                  simp only [Act.put, List.setIfInBounds_toArray, List.set_cons_zero, List.set_cons_succ, i64_w, i32_w]
                  rfl
                 exact norm_ (by first | (simp only [putAll, Act.put, List.setIfInBounds_toArray, List.set_cons_zero, List.set_cons_succ]; done) | (simp only [putAll, Act.put, List.setIfInBounds_toArray, List.set_cons_zero, List.set_cons_succ]; rfl)) (hJ0_1_7 (v162, v165, v171) _ ⟨hHeld, (by (with_reducible repeat (first | apply Kd.R_alloc | apply Kd.R_drewN | apply Kd.R_drew)); exact HO157.out), (by (with_reducible repeat (first | apply Kd.V_alloc | apply Kd.V_drewN | apply Kd.V_drew)); exact Kd.V_mono HO160.out (fun _ hk => ⟨hk.1.1, ⟨hk.1.2.1, ⟨hk.2, ⟨hk.1.2.2.1, hk.1.2.2.2⟩⟩⟩⟩)), (by (with_reducible repeat (first | apply Kd.V_alloc | apply Kd.V_drewN | apply Kd.V_drew)); exact Kd.V_mono HO166.out (fun _ hk => ⟨hk.1.1, ⟨hk.2, hk.1.2⟩⟩)), (by (with_reducible repeat (first | apply Kd.R_alloc | apply Kd.R_drewN | apply Kd.R_drew)); exact Kd.R_mono HO172.out (fun _ hk => hk.2)), (by (with_reducible repeat (first | apply Kd.N_alloc | apply Kd.N_drewN | apply Kd.N_drew)); exact Kd.N_mono HO_147001.out (fun _ hk => ⟨hk.1.1, ⟨hk.1.2.1, ⟨hk.2, hk.1.2.2⟩⟩⟩)), (by (with_reducible repeat (first | refine blk_drewN ?_ _ | refine blk_drew ?_ | refine blk_alloc ?_ _)); exact BK146.out), (by repeat (first | (with_reducible first | exact HB.out | apply below_alloc | apply pw_below_drewN | apply below_drew1 | refine below_set ?_ GE146.out) | exact HB.out))⟩)
              ·skip
               rintro ⟨v162, v168, v171⟩ w54 ⟨hS_, h0_, h1_, h2_, h3_, h4_, h5_, h6_, h7_⟩
               have n0_ : Aside0 (Kd.R (Kd.int .u8) 5 w54 w.heap.size (fun k_ => some k_ ≠ (v162 : Value).ownBlock ∧ some k_ ≠ (v168 : Value).ownBlock ∧ some k_ ≠ (v171 : Value).ownBlock) v156 t155) := ⟨h0_⟩
               have n1_ : Aside0 (Kd.V (Kd.int .u8) 5 w54 w.heap.size (fun k_ => some k_ ≠ (v156 : Value).ownBlock ∧ some k_ ≠ (v162 : Value).ownBlock ∧ some k_ ≠ (v168 : Value).ownBlock ∧ some k_ ≠ (v171 : Value).ownBlock ∧ some k_ ≠ (.slice Ao38 x147001_2.length co38 : Value).ownBlock ∧ k_ ≠ gb146) v159 t158) := ⟨h1_⟩
               have n2_ : Aside0 (Kd.R (Kd.int .u8) 5 w54 w.heap.size (fun k_ => some k_ ≠ (v156 : Value).ownBlock ∧ some k_ ≠ (v168 : Value).ownBlock ∧ some k_ ≠ (v171 : Value).ownBlock) v162 y161) := ⟨h2_⟩
               have n3_ : Aside0 (Kd.R (Kd.int .u8) 5 w54 w.heap.size (fun k_ => some k_ ≠ (v156 : Value).ownBlock ∧ some k_ ≠ (v162 : Value).ownBlock ∧ some k_ ≠ (v171 : Value).ownBlock) v168 y167) := ⟨h3_⟩
               have n4_ : Aside0 (Kd.R (Kd.int .u8) 5 w54 w.heap.size (fun k_ => some k_ ≠ (v156 : Value).ownBlock ∧ some k_ ≠ (v162 : Value).ownBlock ∧ some k_ ≠ (v168 : Value).ownBlock) v171 y170) := ⟨h4_⟩
               have n5_ : Aside0 (Kd.N (Kd.slice 5 (Kd.int .u8)) 22 w54 w.heap.size (fun k_ => some k_ ≠ (v156 : Value).ownBlock ∧ some k_ ≠ (v162 : Value).ownBlock ∧ some k_ ≠ (v168 : Value).ownBlock ∧ some k_ ≠ (v171 : Value).ownBlock ∧ k_ ≠ gb146) (.slice Ao38 x147001_2.length co38) x147001_2) := ⟨h5_⟩
               have n6_ : Aside0 (w54.heap[gb146]? = some (.cells #[.int .u8 ((1 + (Int.tmod a0 3)) % 256), .slice Ao38 x147001_2.length co38] 30 (0, 0))) := ⟨h6_⟩
               have n7_ : Aside0 (Below w.heap.size w w54) := ⟨h7_⟩
               clear HO_147001
               clear HO157
               clear HO160
               clear BK146
               clear HB
               clear h0_ h1_ h2_ h3_ h4_ h5_ h6_ h7_
               have HO157 := n0_
               have HO160 := n1_
               have HO163 := n2_
               have HO169 := n3_
               have HO172 := n4_
               have HO_147001 := n5_
               have BK146 := n6_
               have HB := n7_
               clear n0_ n1_ n2_ n3_ n4_ n5_ n6_ n7_
               have hHeld : w54.cell? ⟨gb146, 0, none⟩ = some (.int .u8 ((1 + (Int.tmod a0 3)) % 256)) ∧ w54.cell? ⟨gb146, 1, none⟩ = some (.slice Ao38 x147001_2.length co38) := hS_
               refine norm_ (a' := ?_) ?_ ?_
               rotate_left
               ·simp only [putAll, Act.put, List.setIfInBounds_toArray, List.set_cons_zero, List.set_cons_succ]
                rfl
               refine one_ (i := 1) (N := some 74) #[true, true, true, true, true, true, true, true, true, false, false, false] rfl rfl (one_of HT_.out (by kernel_rfl)) (by decide) (fun K hK => ?_)
               refine markR_step (w0 := w) w.heap.size 5 (by rfl) 22 (.tmp 73) rfl Try.underlying22 Try.underlying5 v162 y161 (fun k_ => some k_ ≠ (v156 : Value).ownBlock ∧ some k_ ≠ (v168 : Value).ownBlock ∧ some k_ ≠ (v171 : Value).ownBlock ∧ k_ ≠ gb146) rfl ?aO ?aP ?aB ?aS ?_
               (case aP => rw [Ny161.out]; decide)
               (case aB => exact (by repeat (first | (with_reducible first | exact HB.out | apply below_alloc | apply pw_below_drewN | apply below_drew1 | refine below_set ?_ GE146.out) | exact HB.out)))
               (case aO => exact (by (with_reducible repeat (first | apply Kd.R_alloc | apply Kd.R_drewN | apply Kd.R_drew)); exact Kd.R_mono (Kd.R_types HO163.out BK146.out (by decide)) (fun _ hk => ⟨hk.1.1, ⟨hk.1.2.1, ⟨hk.1.2.2, hk.2⟩⟩⟩)))
               (case aS => exact (below_size (by repeat (first | (with_reducible first | exact HB.out | apply below_alloc | apply pw_below_drewN | apply below_drew1 | refine below_set ?_ GE146.out) | exact HB.out))))
               intro v165 w55 ho hb hg hat
               rw [← Ny164.out] at ho
               have n0_ := Aside0.mk (Kd.N_afterv (ok := (fun k_ => some k_ ≠ (v156 : Value).ownBlock ∧ some k_ ≠ (v168 : Value).ownBlock ∧ some k_ ≠ (v171 : Value).ownBlock ∧ k_ ≠ gb146)) (by (with_reducible repeat (first | apply Kd.N_alloc | apply Kd.N_drewN | apply Kd.N_drew)); exact Kd.N_mono HO_147001.out (fun _ hk => ⟨⟨hk.1, ⟨hk.2.2.1, ⟨hk.2.2.2.1, hk.2.2.2.2⟩⟩⟩, hk.2.1⟩)) hg hat)
               have n1_ := Aside0.mk (blk_grown (g := gb146) (o := .cells #[.int .u8 ((1 + (Int.tmod a0 3)) % 256), .slice Ao38 x147001_2.length co38] 30 (0, 0)) (by (with_reducible repeat (first | refine blk_drewN ?_ _ | refine blk_drew ?_ | refine blk_alloc ?_ _)); exact BK146.out) hg (Kd.R_ne HO163.out BK146.out (by decide)))
               have n2_ := Aside0.mk (Kd.R_after (ok := (fun k_ => some k_ ≠ (v168 : Value).ownBlock ∧ some k_ ≠ (v171 : Value).ownBlock)) (by (with_reducible repeat (first | apply Kd.R_alloc | apply Kd.R_drewN | apply Kd.R_drew)); exact Kd.R_mono HO157.out (fun _ hk => ⟨⟨hk.2.1, hk.2.2⟩, hk.1⟩)) hg hat)
               have n3_ := Aside0.mk (Kd.V_afterv (ok := (fun k_ => some k_ ≠ (.slice Ao38 x147001_2.length co38 : Value).ownBlock ∧ some k_ ≠ (v156 : Value).ownBlock ∧ some k_ ≠ (v168 : Value).ownBlock ∧ some k_ ≠ (v171 : Value).ownBlock ∧ k_ ≠ gb146)) (by (with_reducible repeat (first | apply Kd.V_alloc | apply Kd.V_drewN | apply Kd.V_drew)); exact Kd.V_mono HO160.out (fun _ hk => ⟨⟨hk.2.2.2.2.1, ⟨hk.1, ⟨hk.2.2.1, ⟨hk.2.2.2.1, hk.2.2.2.2.2⟩⟩⟩⟩, hk.2.1⟩)) hg hat)
               have n4_ := Aside0.mk (Kd.R_after (ok := (fun k_ => some k_ ≠ (v156 : Value).ownBlock ∧ some k_ ≠ (v171 : Value).ownBlock)) (by (with_reducible repeat (first | apply Kd.R_alloc | apply Kd.R_drewN | apply Kd.R_drew)); exact Kd.R_mono HO169.out (fun _ hk => ⟨⟨hk.1, hk.2.2⟩, hk.2.1⟩)) hg hat)
               have n5_ := Aside0.mk (Kd.R_after (ok := (fun k_ => some k_ ≠ (v156 : Value).ownBlock ∧ some k_ ≠ (v168 : Value).ownBlock)) (by (with_reducible repeat (first | apply Kd.R_alloc | apply Kd.R_drewN | apply Kd.R_drew)); exact Kd.R_mono HO172.out (fun _ hk => ⟨⟨hk.1, hk.2.2⟩, hk.2.1⟩)) hg hat)
               have n6_ := Aside0.mk (hb)
               have n7_ := Aside0.mk (ho)
               clear HO_147001
               clear BK146
               clear HO157
               clear HO160
               clear HO169
               clear HO172
               clear HB
               clear HO163
               have HO_147001 := n0_
               have BK146 := n1_
               have HO157 := n2_
               have HO160 := n3_
               have HO169 := n4_
               have HO172 := n5_
               have HB := n6_
               have HO166 := n7_
               clear n0_ n1_ n2_ n3_ n4_ n5_ n6_ n7_
               clear ho hb hg hat
               refine hK.out _ _ ⟨(blk_cell BK146.out 0).trans rfl, (blk_cell BK146.out 1).trans rfl⟩ (fun hHeld => ?_)
               clear hK K
               refine norm_ (a' := ?_) ?_ ?_
               rotate_left
               ·show Act.put _ (some 74) _ = _
                simp only [Act.put, List.setIfInBounds_toArray, List.set_cons_zero, List.set_cons_succ, i64_w, i32_w]
                rfl
               exact norm_ (by first | (simp only [putAll, Act.put, List.setIfInBounds_toArray, List.set_cons_zero, List.set_cons_succ]; done) | (simp only [putAll, Act.put, List.setIfInBounds_toArray, List.set_cons_zero, List.set_cons_succ]; rfl)) (hJ0_1_6_7 (v162, v165, v168, v171) _ ⟨hHeld, (by (with_reducible repeat (first | apply Kd.R_alloc | apply Kd.R_drewN | apply Kd.R_drew)); exact Kd.R_mono HO157.out (fun _ hk => ⟨hk.2, ⟨hk.1.1, hk.1.2⟩⟩)), (by (with_reducible repeat (first | apply Kd.V_alloc | apply Kd.V_drewN | apply Kd.V_drew)); exact Kd.V_mono HO160.out (fun _ hk => ⟨hk.1.2.1, ⟨hk.2, ⟨hk.1.2.2.1, ⟨hk.1.2.2.2.1, ⟨hk.1.1, hk.1.2.2.2.2⟩⟩⟩⟩⟩)), (by (with_reducible repeat (first | apply Kd.V_alloc | apply Kd.V_drewN | apply Kd.V_drew)); exact HO166.out), (by (with_reducible repeat (first | apply Kd.R_alloc | apply Kd.R_drewN | apply Kd.R_drew)); exact Kd.R_mono HO169.out (fun _ hk => hk.1)), (by (with_reducible repeat (first | apply Kd.R_alloc | apply Kd.R_drewN | apply Kd.R_drew)); exact Kd.R_mono HO172.out (fun _ hk => hk.1)), (by (with_reducible repeat (first | apply Kd.N_alloc | apply Kd.N_drewN | apply Kd.N_drew)); exact Kd.N_mono HO_147001.out (fun _ hk => ⟨hk.1.1, ⟨hk.2, ⟨hk.1.2.1, ⟨hk.1.2.2.1, hk.1.2.2.2⟩⟩⟩⟩)), (by (with_reducible repeat (first | refine blk_drewN ?_ _ | refine blk_drew ?_ | refine blk_alloc ?_ _)); exact BK146.out), (by repeat (first | (with_reducible first | exact HB.out | apply below_alloc | apply pw_below_drewN | apply below_drew1 | refine below_set ?_ GE146.out) | exact HB.out))⟩)
             ·skip
              rintro ⟨v162, v165, v171⟩ w53 ⟨hS_, h0_, h1_, h2_, h3_, h4_, h5_, h6_⟩
              have n0_ : Aside0 (Kd.R (Kd.int .u8) 5 w53 w.heap.size (fun k_ => some k_ ≠ (v165 : Value).ownBlock ∧ some k_ ≠ (v171 : Value).ownBlock) v156 t155) := ⟨h0_⟩
              have n1_ : Aside0 (Kd.V (Kd.int .u8) 5 w53 w.heap.size (fun k_ => some k_ ≠ (v156 : Value).ownBlock ∧ some k_ ≠ (v165 : Value).ownBlock ∧ some k_ ≠ (v171 : Value).ownBlock ∧ some k_ ≠ (.slice Ao38 x147001_2.length co38 : Value).ownBlock ∧ k_ ≠ gb146) v159 t158) := ⟨h1_⟩
              have n2_ : Aside0 (Kd.V (Kd.int .u8) 5 w53 w.heap.size (fun k_ => some k_ ≠ (v156 : Value).ownBlock ∧ some k_ ≠ (v171 : Value).ownBlock ∧ k_ ≠ gb146) v165 y164) := ⟨h2_⟩
              have n3_ : Aside0 (Kd.R (Kd.int .u8) 5 w53 w.heap.size (fun k_ => some k_ ≠ (v156 : Value).ownBlock) v171 y170) := ⟨h3_⟩
              have n4_ : Aside0 (Kd.N (Kd.slice 5 (Kd.int .u8)) 22 w53 w.heap.size (fun k_ => some k_ ≠ (v156 : Value).ownBlock ∧ some k_ ≠ (v165 : Value).ownBlock ∧ some k_ ≠ (v171 : Value).ownBlock ∧ k_ ≠ gb146) (.slice Ao38 x147001_2.length co38) x147001_2) := ⟨h4_⟩
              have n5_ : Aside0 (w53.heap[gb146]? = some (.cells #[.int .u8 ((1 + (Int.tmod a0 3)) % 256), .slice Ao38 x147001_2.length co38] 30 (0, 0))) := ⟨h5_⟩
              have n6_ : Aside0 (Below w.heap.size w w53) := ⟨h6_⟩
              clear HO_147001
              clear HO157
              clear HO160
              clear BK146
              clear HB
              clear h0_ h1_ h2_ h3_ h4_ h5_ h6_
              have HO157 := n0_
              have HO160 := n1_
              have HO166 := n2_
              have HO172 := n3_
              have HO_147001 := n4_
              have BK146 := n5_
              have HB := n6_
              clear n0_ n1_ n2_ n3_ n4_ n5_ n6_
              have hHeld : w53.cell? ⟨gb146, 0, none⟩ = some (.int .u8 ((1 + (Int.tmod a0 3)) % 256)) ∧ w53.cell? ⟨gb146, 1, none⟩ = some (.slice Ao38 x147001_2.length co38) := hS_
              refine norm_ (a' := ?_) ?_ ?_
              rotate_left
              ·simp only [putAll, Act.put, List.setIfInBounds_toArray, List.set_cons_zero, List.set_cons_succ]
               rfl
              refine one_ (i := 6) (N := some 79) #[true, true, true, true, true, true, true, true, true, false, false, false] rfl rfl (one_of HT_.out (by kernel_rfl)) (by decide) (fun K hK => ?_)
              refine Kd.R_lit_step (Kd.int .u8) _ 5 ?hg (N := 79) ?hd (xs := ([((x147001_2.length : Int)) % 256] : List Int)) (inner := [.int .u8 (((x147001_2.length : Int)) % 256)]) (ok := fun _ => True) (okp := fun _ => True) ?hr ?hp (fun _ hk => hk) trivial (Below.refl _ _) (Nat.le_refl _) (by simp) ?_; (case hd => rfl); (case hg => rfl); (case hr => first | (go_simp; done) | (go_simp; rfl)); (case hp => exact (Reps.one (show Kd.M (Kd.int .u8) _ _ _ (((x147001_2.length : Int)) % 256) [.int .u8 (((x147001_2.length : Int)) % 256)] from rfl) (Reps.none _ _)))
              intro v168 w54 ho55 hb hg_ hnew_
              clear hg_ hnew_
              (first | rw [← Ny167.out] at ho55 | (simp only [Int.reduceToNat] at ho55; rw [← Ny167.out] at ho55))
              have n0_ := Aside0.mk (Kd.N_elder' (by (with_reducible repeat (first | apply Kd.N_alloc | apply Kd.N_drewN | apply Kd.N_drew)); exact HO_147001.out) (Kd.R_base ho55) hb)
              have n1_ := Aside0.mk (Kd.R_elder' (by (with_reducible repeat (first | apply Kd.R_alloc | apply Kd.R_drewN | apply Kd.R_drew)); exact HO157.out) (Kd.R_base ho55) hb)
              have n2_ := Aside0.mk (Kd.V_elder' (by (with_reducible repeat (first | apply Kd.V_alloc | apply Kd.V_drewN | apply Kd.V_drew)); exact HO160.out) (Kd.R_base ho55) hb)
              have n3_ := Aside0.mk (Kd.V_elder' (by (with_reducible repeat (first | apply Kd.V_alloc | apply Kd.V_drewN | apply Kd.V_drew)); exact HO166.out) (Kd.R_base ho55) hb)
              have n4_ := Aside0.mk (Kd.R_elder' (by (with_reducible repeat (first | apply Kd.R_alloc | apply Kd.R_drewN | apply Kd.R_drew)); exact HO172.out) (Kd.R_base ho55) hb)
              have n5_ := Aside0.mk (Kd.R_lower (Kd.R_new' (Kd.R_new' ho55 (Kd.R_lt (by (with_reducible repeat (first | apply Kd.R_alloc | apply Kd.R_drewN | apply Kd.R_drew)); exact HO157.out))) (Kd.R_lt (by (with_reducible repeat (first | apply Kd.R_alloc | apply Kd.R_drewN | apply Kd.R_drew)); exact HO172.out))) (below_size (by repeat (first | (with_reducible first | exact HB.out | apply below_alloc | apply pw_below_drewN | apply below_drew1 | refine below_set ?_ GE146.out) | exact HB.out))))
              have n6_ := Aside0.mk (blk_below (g := gb146) (o := .cells #[.int .u8 ((1 + (Int.tmod a0 3)) % 256), .slice Ao38 x147001_2.length co38] 30 (0, 0)) (by (with_reducible repeat (first | refine blk_drewN ?_ _ | refine blk_drew ?_ | refine blk_alloc ?_ _)); exact BK146.out) hb)
              have n7_ := Aside0.mk (below_step (by repeat (first | (with_reducible first | exact HB.out | apply below_alloc | apply pw_below_drewN | apply below_drew1 | refine below_set ?_ GE146.out) | exact HB.out)) hb)
              clear HO_147001
              clear HO157
              clear HO160
              clear HO166
              clear HO172
              clear BK146
              clear HB
              have HO_147001 := n0_
              have HO157 := n1_
              have HO160 := n2_
              have HO166 := n3_
              have HO172 := n4_
              have HO169 := n5_
              have BK146 := n6_
              have HB := n7_
              clear n0_ n1_ n2_ n3_ n4_ n5_ n6_ n7_
              clear hb ho55
              refine hK.out _ _ ⟨(blk_cell BK146.out 0).trans rfl, (blk_cell BK146.out 1).trans rfl⟩ (fun hHeld => ?_)
              clear hK K
              refine norm_ (a' := ?_) ?_ ?_
              rotate_left
              ·show Act.put _ (some 79) _ = _
               simp only [Act.put, List.setIfInBounds_toArray, List.set_cons_zero, List.set_cons_succ, i64_w, i32_w]
               rfl
              exact norm_ (by first | (simp only [putAll, Act.put, List.setIfInBounds_toArray, List.set_cons_zero, List.set_cons_succ]; done) | (simp only [putAll, Act.put, List.setIfInBounds_toArray, List.set_cons_zero, List.set_cons_succ]; rfl)) (hJ0_1_6_7 (v162, v165, v168, v171) _ ⟨hHeld, (by (with_reducible repeat (first | apply Kd.R_alloc | apply Kd.R_drewN | apply Kd.R_drew)); exact Kd.R_mono HO157.out (fun _ hk => ⟨hk.1.1, ⟨hk.2, hk.1.2⟩⟩)), (by (with_reducible repeat (first | apply Kd.V_alloc | apply Kd.V_drewN | apply Kd.V_drew)); exact Kd.V_mono HO160.out (fun _ hk => ⟨hk.1.1, ⟨hk.1.2.1, ⟨hk.2, ⟨hk.1.2.2.1, ⟨hk.1.2.2.2.1, hk.1.2.2.2.2⟩⟩⟩⟩⟩)), (by (with_reducible repeat (first | apply Kd.V_alloc | apply Kd.V_drewN | apply Kd.V_drew)); exact Kd.V_mono HO166.out (fun _ hk => ⟨hk.1.1, ⟨hk.2, ⟨hk.1.2.1, hk.1.2.2⟩⟩⟩)), (by (with_reducible repeat (first | apply Kd.R_alloc | apply Kd.R_drewN | apply Kd.R_drew)); exact Kd.R_mono HO169.out (fun _ hk => ⟨hk.1.2, hk.2⟩)), (by (with_reducible repeat (first | apply Kd.R_alloc | apply Kd.R_drewN | apply Kd.R_drew)); exact HO172.out), (by (with_reducible repeat (first | apply Kd.N_alloc | apply Kd.N_drewN | apply Kd.N_drew)); exact Kd.N_mono HO_147001.out (fun _ hk => ⟨hk.1.1, ⟨hk.1.2.1, ⟨hk.2, ⟨hk.1.2.2.1, hk.1.2.2.2⟩⟩⟩⟩)), (by (with_reducible repeat (first | refine blk_drewN ?_ _ | refine blk_drew ?_ | refine blk_alloc ?_ _)); exact BK146.out), (by repeat (first | (with_reducible first | exact HB.out | apply below_alloc | apply pw_below_drewN | apply below_drew1 | refine below_set ?_ GE146.out) | exact HB.out))⟩)
            ·skip
             rintro ⟨v162, v165, v168⟩ w53 ⟨hS_, h0_, h1_, h2_, h3_, h4_, h5_, h6_⟩
             have n0_ : Aside0 (Kd.R (Kd.int .u8) 5 w53 w.heap.size (fun k_ => some k_ ≠ (v165 : Value).ownBlock ∧ some k_ ≠ (v168 : Value).ownBlock) v156 t155) := ⟨h0_⟩
             have n1_ : Aside0 (Kd.V (Kd.int .u8) 5 w53 w.heap.size (fun k_ => some k_ ≠ (v156 : Value).ownBlock ∧ some k_ ≠ (v165 : Value).ownBlock ∧ some k_ ≠ (v168 : Value).ownBlock ∧ some k_ ≠ (.slice Ao38 x147001_2.length co38 : Value).ownBlock ∧ k_ ≠ gb146) v159 t158) := ⟨h1_⟩
             have n2_ : Aside0 (Kd.V (Kd.int .u8) 5 w53 w.heap.size (fun k_ => some k_ ≠ (v156 : Value).ownBlock ∧ some k_ ≠ (v168 : Value).ownBlock ∧ k_ ≠ gb146) v165 y164) := ⟨h2_⟩
             have n3_ : Aside0 (Kd.R (Kd.int .u8) 5 w53 w.heap.size (fun k_ => some k_ ≠ (v156 : Value).ownBlock) v168 y167) := ⟨h3_⟩
             have n4_ : Aside0 (Kd.N (Kd.slice 5 (Kd.int .u8)) 22 w53 w.heap.size (fun k_ => some k_ ≠ (v156 : Value).ownBlock ∧ some k_ ≠ (v165 : Value).ownBlock ∧ some k_ ≠ (v168 : Value).ownBlock ∧ k_ ≠ gb146) (.slice Ao38 x147001_2.length co38) x147001_2) := ⟨h4_⟩
             have n5_ : Aside0 (w53.heap[gb146]? = some (.cells #[.int .u8 ((1 + (Int.tmod a0 3)) % 256), .slice Ao38 x147001_2.length co38] 30 (0, 0))) := ⟨h5_⟩
             have n6_ : Aside0 (Below w.heap.size w w53) := ⟨h6_⟩
             clear HO_147001
             clear HO157
             clear HO160
             clear BK146
             clear HB
             clear h0_ h1_ h2_ h3_ h4_ h5_ h6_
             have HO157 := n0_
             have HO160 := n1_
             have HO166 := n2_
             have HO169 := n3_
             have HO_147001 := n4_
             have BK146 := n5_
             have HB := n6_
             clear n0_ n1_ n2_ n3_ n4_ n5_ n6_
             have hHeld : w53.cell? ⟨gb146, 0, none⟩ = some (.int .u8 ((1 + (Int.tmod a0 3)) % 256)) ∧ w53.cell? ⟨gb146, 1, none⟩ = some (.slice Ao38 x147001_2.length co38) := hS_
             refine norm_ (a' := ?_) ?_ ?_
             rotate_left
             ·simp only [putAll, Act.put, List.setIfInBounds_toArray, List.set_cons_zero, List.set_cons_succ]
              rfl
             refine one_ (i := 7) (N := some 80) #[true, true, true, true, true, true, true, true, true, false, false, false] rfl rfl (one_of HT_.out (by kernel_rfl)) (by decide) (fun K hK => ?_)
             refine Kd.R_make_step (Kd.int .u8) _ 5 (by rfl) (N := 80) rfl 22 _ _ rfl 11 rfl rfl Try.underlying22 (.int .u8 0) 1 info5 rfl (by decide) (by omega) 0 (ok := fun _ => True) (okp := fun _ => True) rfl (fun _ hk => hk) trivial (by omega) (by omega) (Below.refl _ _) (Nat.le_refl _) ?_
             intro v171 w54 ho55 hb hg_ hnew_
             clear hg_ hnew_
             (first | rw [← Ny170.out] at ho55 | (simp only [Int.reduceToNat] at ho55; rw [← Ny170.out] at ho55))
             have n0_ := Aside0.mk (Kd.N_elder' (by (with_reducible repeat (first | apply Kd.N_alloc | apply Kd.N_drewN | apply Kd.N_drew)); exact HO_147001.out) (Kd.R_base ho55) hb)
             have n1_ := Aside0.mk (Kd.R_elder' (by (with_reducible repeat (first | apply Kd.R_alloc | apply Kd.R_drewN | apply Kd.R_drew)); exact HO157.out) (Kd.R_base ho55) hb)
             have n2_ := Aside0.mk (Kd.V_elder' (by (with_reducible repeat (first | apply Kd.V_alloc | apply Kd.V_drewN | apply Kd.V_drew)); exact HO160.out) (Kd.R_base ho55) hb)
             have n3_ := Aside0.mk (Kd.V_elder' (by (with_reducible repeat (first | apply Kd.V_alloc | apply Kd.V_drewN | apply Kd.V_drew)); exact HO166.out) (Kd.R_base ho55) hb)
             have n4_ := Aside0.mk (Kd.R_elder' (by (with_reducible repeat (first | apply Kd.R_alloc | apply Kd.R_drewN | apply Kd.R_drew)); exact HO169.out) (Kd.R_base ho55) hb)
             have n5_ := Aside0.mk (Kd.R_lower (Kd.R_new' (Kd.R_new' ho55 (Kd.R_lt (by (with_reducible repeat (first | apply Kd.R_alloc | apply Kd.R_drewN | apply Kd.R_drew)); exact HO157.out))) (Kd.R_lt (by (with_reducible repeat (first | apply Kd.R_alloc | apply Kd.R_drewN | apply Kd.R_drew)); exact HO169.out))) (below_size (by repeat (first | (with_reducible first | exact HB.out | apply below_alloc | apply pw_below_drewN | apply below_drew1 | refine below_set ?_ GE146.out) | exact HB.out))))
             have n6_ := Aside0.mk (blk_below (g := gb146) (o := .cells #[.int .u8 ((1 + (Int.tmod a0 3)) % 256), .slice Ao38 x147001_2.length co38] 30 (0, 0)) (by (with_reducible repeat (first | refine blk_drewN ?_ _ | refine blk_drew ?_ | refine blk_alloc ?_ _)); exact BK146.out) hb)
             have n7_ := Aside0.mk (below_step (by repeat (first | (with_reducible first | exact HB.out | apply below_alloc | apply pw_below_drewN | apply below_drew1 | refine below_set ?_ GE146.out) | exact HB.out)) hb)
             clear HO_147001
             clear HO157
             clear HO160
             clear HO166
             clear HO169
             clear BK146
             clear HB
             have HO_147001 := n0_
             have HO157 := n1_
             have HO160 := n2_
             have HO166 := n3_
             have HO169 := n4_
             have HO172 := n5_
             have BK146 := n6_
             have HB := n7_
             clear n0_ n1_ n2_ n3_ n4_ n5_ n6_ n7_
             clear hb ho55
             refine hK.out _ _ ⟨(blk_cell BK146.out 0).trans rfl, (blk_cell BK146.out 1).trans rfl⟩ (fun hHeld => ?_)
             clear hK K
             refine norm_ (a' := ?_) ?_ ?_
             rotate_left
             ·show Act.put _ (some 80) _ = _
              simp only [Act.put, List.setIfInBounds_toArray, List.set_cons_zero, List.set_cons_succ, i64_w, i32_w]
              rfl
             exact norm_ (by first | (simp only [putAll, Act.put, List.setIfInBounds_toArray, List.set_cons_zero, List.set_cons_succ]; done) | (simp only [putAll, Act.put, List.setIfInBounds_toArray, List.set_cons_zero, List.set_cons_succ]; rfl)) (hJ0_1_6_7 (v162, v165, v168, v171) _ ⟨hHeld, (by (with_reducible repeat (first | apply Kd.R_alloc | apply Kd.R_drewN | apply Kd.R_drew)); exact Kd.R_mono HO157.out (fun _ hk => ⟨hk.1.1, ⟨hk.1.2, hk.2⟩⟩)), (by (with_reducible repeat (first | apply Kd.V_alloc | apply Kd.V_drewN | apply Kd.V_drew)); exact Kd.V_mono HO160.out (fun _ hk => ⟨hk.1.1, ⟨hk.1.2.1, ⟨hk.1.2.2.1, ⟨hk.2, ⟨hk.1.2.2.2.1, hk.1.2.2.2.2⟩⟩⟩⟩⟩)), (by (with_reducible repeat (first | apply Kd.V_alloc | apply Kd.V_drewN | apply Kd.V_drew)); exact Kd.V_mono HO166.out (fun _ hk => ⟨hk.1.1, ⟨hk.1.2.1, ⟨hk.2, hk.1.2.2⟩⟩⟩)), (by (with_reducible repeat (first | apply Kd.R_alloc | apply Kd.R_drewN | apply Kd.R_drew)); exact HO169.out), (by (with_reducible repeat (first | apply Kd.R_alloc | apply Kd.R_drewN | apply Kd.R_drew)); exact Kd.R_mono HO172.out (fun _ hk => ⟨hk.1.2, hk.2⟩)), (by (with_reducible repeat (first | apply Kd.N_alloc | apply Kd.N_drewN | apply Kd.N_drew)); exact Kd.N_mono HO_147001.out (fun _ hk => ⟨hk.1.1, ⟨hk.1.2.1, ⟨hk.1.2.2.1, ⟨hk.2, hk.1.2.2.2⟩⟩⟩⟩)), (by (with_reducible repeat (first | refine blk_drewN ?_ _ | refine blk_drew ?_ | refine blk_alloc ?_ _)); exact BK146.out), (by repeat (first | (with_reducible first | exact HB.out | apply below_alloc | apply pw_below_drewN | apply below_drew1 | refine below_set ?_ GE146.out) | exact HB.out))⟩)
           rintro ⟨v162, v165, v168, v171⟩ w55 ⟨hS_, h0_, h1_, h2_, h3_, h4_, h5_, h6_, h7_⟩
           have n0_ : Aside0 (Kd.R (Kd.int .u8) 5 w55 w.heap.size (fun k_ => some k_ ≠ (v165 : Value).ownBlock ∧ some k_ ≠ (v168 : Value).ownBlock ∧ some k_ ≠ (v171 : Value).ownBlock) v156 t155) := ⟨h0_⟩
           have n1_ : Aside0 (Kd.V (Kd.int .u8) 5 w55 w.heap.size (fun k_ => some k_ ≠ (v156 : Value).ownBlock ∧ some k_ ≠ (v165 : Value).ownBlock ∧ some k_ ≠ (v168 : Value).ownBlock ∧ some k_ ≠ (v171 : Value).ownBlock ∧ some k_ ≠ (.slice Ao38 x147001_2.length co38 : Value).ownBlock ∧ k_ ≠ gb146) v159 t158) := ⟨h1_⟩
           have n2_ : Aside0 (Kd.V (Kd.int .u8) 5 w55 w.heap.size (fun k_ => some k_ ≠ (v156 : Value).ownBlock ∧ some k_ ≠ (v168 : Value).ownBlock ∧ some k_ ≠ (v171 : Value).ownBlock ∧ k_ ≠ gb146) v165 y164) := ⟨h2_⟩
           have n3_ : Aside0 (Kd.R (Kd.int .u8) 5 w55 w.heap.size (fun k_ => some k_ ≠ (v156 : Value).ownBlock ∧ some k_ ≠ (v171 : Value).ownBlock) v168 y167) := ⟨h3_⟩
           have n4_ : Aside0 (Kd.R (Kd.int .u8) 5 w55 w.heap.size (fun k_ => some k_ ≠ (v156 : Value).ownBlock ∧ some k_ ≠ (v168 : Value).ownBlock) v171 y170) := ⟨h4_⟩
           have n5_ : Aside0 (Kd.N (Kd.slice 5 (Kd.int .u8)) 22 w55 w.heap.size (fun k_ => some k_ ≠ (v156 : Value).ownBlock ∧ some k_ ≠ (v165 : Value).ownBlock ∧ some k_ ≠ (v168 : Value).ownBlock ∧ some k_ ≠ (v171 : Value).ownBlock ∧ k_ ≠ gb146) (.slice Ao38 x147001_2.length co38) x147001_2) := ⟨h5_⟩
           have n6_ : Aside0 (w55.heap[gb146]? = some (.cells #[.int .u8 ((1 + (Int.tmod a0 3)) % 256), .slice Ao38 x147001_2.length co38] 30 (0, 0))) := ⟨h6_⟩
           have n7_ : Aside0 (Below w.heap.size w w55) := ⟨h7_⟩
           clear HO_147001
           clear HO157
           clear HO160
           clear BK146
           clear HB
           clear h0_ h1_ h2_ h3_ h4_ h5_ h6_ h7_
           have HO157 := n0_
           have HO160 := n1_
           have HO166 := n2_
           have HO169 := n3_
           have HO172 := n4_
           have HO_147001 := n5_
           have BK146 := n6_
           have HB := n7_
           clear n0_ n1_ n2_ n3_ n4_ n5_ n6_ n7_
           have hHeld : w55.cell? ⟨gb146, 0, none⟩ = some (.int .u8 ((1 + (Int.tmod a0 3)) % 256)) ∧ w55.cell? ⟨gb146, 1, none⟩ = some (.slice Ao38 x147001_2.length co38) := hS_
           obtain ⟨Ao56, co56, eo56⟩ := Kd.V_slice HO166.out
           (first | subst eo56 | (injection eo56 with f1_ f2_ f3_; have f4_ := f1_.symm; have f5_ := f3_.symm; clear f1_ f2_ f3_; subst f4_; subst f5_))
           obtain ⟨Ao57, co57, eo57⟩ := Kd.R_slice HO169.out
           (first | subst eo57 | (injection eo57 with f1_ f2_ f3_; have f4_ := f1_.symm; have f5_ := f3_.symm; clear f1_ f2_ f3_; subst f4_; subst f5_))
           obtain ⟨Ao58, co58, eo58⟩ := Kd.R_slice HO172.out
           (first | subst eo58 | (injection eo58 with f1_ f2_ f3_; have f4_ := f1_.symm; have f5_ := f3_.symm; clear f1_ f2_ f3_; subst f4_; subst f5_))
           obtain ⟨Ao59, co59, eo59⟩ := Kd.V_slice HO160.out
           (first | subst eo59 | (injection eo59 with f1_ f2_ f3_; have f4_ := f1_.symm; have f5_ := f3_.symm; clear f1_ f2_ f3_; subst f4_; subst f5_))
           refine norm_ (a' := ?_) ?_ ?_
           rotate_left
           ·simp only [putAll, Act.put, List.setIfInBounds_toArray, List.set_cons_zero, List.set_cons_succ]
            rfl
           refine one_ (i := 9) (N := some 82) #[true, true, true, true, true, true, true, true, true, true, false, false] rfl rfl (one_of HT_.out (by kernel_rfl)) (by decide) (fun K hK => ?_)
           refine Kd.N_lit_step (Kd.slice 5 (Kd.int .u8)) _ 22 ?hg (N' := 82) ?hd (xs := ([y164, y167, y170, t158] : List (List Int))) (inner := [.slice Ao56 y164.length co56, .slice Ao57 y167.length co57, .slice Ao58 y170.length co58, .slice Ao59 t158.length co59]) (ok := (fun k_ => some k_ ≠ (v156 : Value).ownBlock ∧ k_ ≠ gb146)) (okp := (fun k_ => some k_ ≠ (v156 : Value).ownBlock ∧ k_ ≠ gb146)) ?hr ?hp (fun _ hk => hk) ((show ∀ k_, w55.heap.size ≤ k_ → (fun k_ => some k_ ≠ (v156 : Value).ownBlock ∧ k_ ≠ gb146) k_ from fun k_ hk => ⟨Kd.fresh' (Kd.R_lt (by (with_reducible repeat (first | apply Kd.R_alloc | apply Kd.R_drewN | apply Kd.R_drew)); exact HO157.out)) k_ hk, Kd.freshB (g := gb146) (o := .cells #[.int .u8 ((1 + (Int.tmod a0 3)) % 256), .slice Ao38 x147001_2.length co38] 30 (0, 0)) (by (with_reducible repeat (first | refine blk_drewN ?_ _ | refine blk_drew ?_ | refine blk_alloc ?_ _)); exact BK146.out) k_ hk⟩) _ (Nat.le_refl _)) (Below.refl _ _) (Nat.le_refl _) (by simp) ?_; (case hd => rfl); (case hg => rfl); (case hr => first | (go_simp; done) | (go_simp; rfl)); (case hp => exact (Reps.one (show Kd.FK (Kd.slice 5 (Kd.int .u8)) _ _ y164 [.slice Ao56 y164.length co56] from (Kd.FK_slice_mk (Kd.V_reads' (e := 5) (base := w.heap.size) (Kd.V_mono (e := 5) (base := w.heap.size) (ok' := (fun k_ => some k_ ≠ (v156 : Value).ownBlock ∧ k_ ≠ gb146)) (HO166.out) (fun k_ hk => ⟨hk.1, hk.2.2.2⟩))).2.1 (Kd.V_F (e := 5) (base := w.heap.size) (Kd.V_mono (e := 5) (base := w.heap.size) (ok' := (fun k_ => some k_ ≠ (v156 : Value).ownBlock ∧ k_ ≠ gb146)) (HO166.out) (fun k_ hk => ⟨hk.1, hk.2.2.2⟩))))) (Reps.one (show Kd.FK (Kd.slice 5 (Kd.int .u8)) _ _ y167 [.slice Ao57 y167.length co57] from (Kd.FK_slice_mk (Kd.R_reads' (Kd.R_mono (ok' := (fun k_ => some k_ ≠ (v156 : Value).ownBlock ∧ k_ ≠ gb146)) (Kd.R_types (HO169.out) BK146.out (by decide)) (fun k_ hk => ⟨hk.1.1, hk.2⟩))).2.1 (Kd.R_F (Kd.R_mono (ok' := (fun k_ => some k_ ≠ (v156 : Value).ownBlock ∧ k_ ≠ gb146)) (Kd.R_types (HO169.out) BK146.out (by decide)) (fun k_ hk => ⟨hk.1.1, hk.2⟩))))) (Reps.one (show Kd.FK (Kd.slice 5 (Kd.int .u8)) _ _ y170 [.slice Ao58 y170.length co58] from (Kd.FK_slice_mk (Kd.R_reads' (Kd.R_mono (ok' := (fun k_ => some k_ ≠ (v156 : Value).ownBlock ∧ k_ ≠ gb146)) (Kd.R_types (HO172.out) BK146.out (by decide)) (fun k_ hk => ⟨hk.1.1, hk.2⟩))).2.1 (Kd.R_F (Kd.R_mono (ok' := (fun k_ => some k_ ≠ (v156 : Value).ownBlock ∧ k_ ≠ gb146)) (Kd.R_types (HO172.out) BK146.out (by decide)) (fun k_ hk => ⟨hk.1.1, hk.2⟩))))) (Reps.one (show Kd.FK (Kd.slice 5 (Kd.int .u8)) _ _ t158 [.slice Ao59 t158.length co59] from (Kd.FK_slice_mk (Kd.V_reads' (e := 5) (base := w.heap.size) (Kd.V_mono (e := 5) (base := w.heap.size) (ok' := (fun k_ => some k_ ≠ (v156 : Value).ownBlock ∧ k_ ≠ gb146)) (HO160.out) (fun k_ hk => ⟨hk.1, hk.2.2.2.2.2⟩))).2.1 (Kd.V_F (e := 5) (base := w.heap.size) (Kd.V_mono (e := 5) (base := w.heap.size) (ok' := (fun k_ => some k_ ≠ (v156 : Value).ownBlock ∧ k_ ≠ gb146)) (HO160.out) (fun k_ hk => ⟨hk.1, hk.2.2.2.2.2⟩))))) (Reps.none _ _))))))
           intro v174 w60 ho61 hb hg_ hnew_
           clear hg_ hnew_
           (first | rw [← Ny173.out] at ho61 | (simp only [Int.reduceToNat] at ho61; rw [← Ny173.out] at ho61))
           have n0_ := Aside0.mk (Kd.N_elder' (by (with_reducible repeat (first | apply Kd.N_alloc | apply Kd.N_drewN | apply Kd.N_drew)); exact HO_147001.out) (Kd.N_base ho61) hb)
           have n1_ := Aside0.mk (Kd.R_below (by (with_reducible repeat (first | apply Kd.R_alloc | apply Kd.R_drewN | apply Kd.R_drew)); exact HO157.out) hb)
           have n2_ := Aside0.mk (Kd.V_elder' (by (with_reducible repeat (first | apply Kd.V_alloc | apply Kd.V_drewN | apply Kd.V_drew)); exact HO160.out) (Kd.N_base ho61) hb)
           have n3_ := Aside0.mk (Kd.V_elder' (by (with_reducible repeat (first | apply Kd.V_alloc | apply Kd.V_drewN | apply Kd.V_drew)); exact HO166.out) (Kd.N_base ho61) hb)
           have n4_ := Aside0.mk (Kd.N_lower ho61 (below_size (by repeat (first | (with_reducible first | exact HB.out | apply below_alloc | apply pw_below_drewN | apply below_drew1 | refine below_set ?_ GE146.out) | exact HB.out))))
           have n5_ := Aside0.mk (blk_below (g := gb146) (o := .cells #[.int .u8 ((1 + (Int.tmod a0 3)) % 256), .slice Ao38 x147001_2.length co38] 30 (0, 0)) (by (with_reducible repeat (first | refine blk_drewN ?_ _ | refine blk_drew ?_ | refine blk_alloc ?_ _)); exact BK146.out) hb)
           have n6_ := Aside0.mk (below_step (by repeat (first | (with_reducible first | exact HB.out | apply below_alloc | apply pw_below_drewN | apply below_drew1 | refine below_set ?_ GE146.out) | exact HB.out)) hb)
           clear HO_147001
           clear HO157
           clear HO160
           clear HO166
           clear BK146
           clear HB
           clear HO169
           clear HO172
           have HO_147001 := n0_
           have HO157 := n1_
           have HO160 := n2_
           have HO166 := n3_
           have HO175 := n4_
           have BK146 := n5_
           have HB := n6_
           clear n0_ n1_ n2_ n3_ n4_ n5_ n6_
           clear hb ho61
           obtain ⟨Ao62, co62, eo62⟩ := Kd.N_slice HO175.out
           (first | subst eo62 | (injection eo62 with f1_ f2_ f3_; have f4_ := f1_.symm; have f5_ := f3_.symm; clear f1_ f2_ f3_; subst f4_; subst f5_))
           refine hK.out _ _ ⟨(blk_cell BK146.out 0).trans rfl, (blk_cell BK146.out 1).trans rfl⟩ (fun hHeld => ?_)
           clear hK K
           refine norm_ (a' := ?_) ?_ ?_
           rotate_left
           ·show Act.put _ (some 82) _ = _
            simp only [Act.put, List.setIfInBounds_toArray, List.set_cons_zero, List.set_cons_succ, i64_w, i32_w]
            rfl
           refine one_ (i := 10) (N := some 83) #[true, true, true, true, true, true, true, true, true, true, true, false] rfl rfl (one_of HT_.out (by kernel_rfl)) (by decide) (fun K hK => ?_)
           refine goes_ Try.func11 (by kernel_rfl) rfl #[.slice Ao62 y173.length co62] (by rfl) rfl rfl (by (try simp only [List.map_toArray, List.map_cons, List.map_nil]); first | done | rfl | (simp only [List.length_drop, List.length_take]; rfl)) ?_
           with_reducible refine (kotatsuref01_Join.calls k2 _ _ y173 t176 _ ?side1 ?side2 A46.out).mono ?_
           (case side1 => repeat (first | exact (Kd.N_reads' HO175.out).2.2 | (with_reducible refine Kd.C_alloc ?_ _) | (with_reducible refine Kd.C_drewN ?_ _) | (with_reducible refine Kd.C_drew ?_)))
           (case side2 => exact (Kd.N_reads' HO175.out).2.1)
           rintro e w63 ⟨v177, rfl, ho0, hb⟩
           refine ⟨_, rfl, ?_⟩
           have n0_ := Aside0.mk (Kd.N_below (by (with_reducible repeat (first | apply Kd.N_alloc | apply Kd.N_drewN | apply Kd.N_drew)); exact HO_147001.out) hb)
           have n1_ := Aside0.mk (Kd.R_below (by (with_reducible repeat (first | apply Kd.R_alloc | apply Kd.R_drewN | apply Kd.R_drew)); exact HO157.out) hb)
           have n2_ := Aside0.mk (Kd.V_below (by (with_reducible repeat (first | apply Kd.V_alloc | apply Kd.V_drewN | apply Kd.V_drew)); exact HO160.out) hb)
           have n3_ := Aside0.mk (Kd.V_below (by (with_reducible repeat (first | apply Kd.V_alloc | apply Kd.V_drewN | apply Kd.V_drew)); exact HO166.out) hb)
           have n4_ := Aside0.mk (Kd.N_below (by (with_reducible repeat (first | apply Kd.N_alloc | apply Kd.N_drewN | apply Kd.N_drew)); exact HO175.out) hb)
           have n5_ := Aside0.mk (Kd.V_lower (Kd.V_mono (ok' := fun k_ => some k_ ≠ (.slice Ao38 x147001_2.length co38 : Value).ownBlock ∧ some k_ ≠ (v156 : Value).ownBlock ∧ some k_ ≠ (.slice Ao62 y173.length co62 : Value).ownBlock ∧ k_ ≠ gb146) ho0 (fun k_ hk_ => ⟨(Kd.fresh' (Kd.N_lt (by (with_reducible repeat (first | apply Kd.N_alloc | apply Kd.N_drewN | apply Kd.N_drew)); exact HO_147001.out)) k_ hk_), (Kd.fresh' (Kd.R_lt (by (with_reducible repeat (first | apply Kd.R_alloc | apply Kd.R_drewN | apply Kd.R_drew)); exact HO157.out)) k_ hk_), (Kd.fresh' (Kd.N_lt (by (with_reducible repeat (first | apply Kd.N_alloc | apply Kd.N_drewN | apply Kd.N_drew)); exact HO175.out)) k_ hk_), (Kd.freshB (g := gb146) (o := .cells #[.int .u8 ((1 + (Int.tmod a0 3)) % 256), .slice Ao38 x147001_2.length co38] 30 (0, 0)) (by (with_reducible repeat (first | refine blk_drewN ?_ _ | refine blk_drew ?_ | refine blk_alloc ?_ _)); exact BK146.out) k_ hk_)⟩)) (below_size (by repeat (first | (with_reducible first | exact HB.out | apply below_alloc | apply pw_below_drewN | apply below_drew1 | refine below_set ?_ GE146.out) | exact HB.out))))
           have n6_ := Aside0.mk (blk_below (g := gb146) (o := .cells #[.int .u8 ((1 + (Int.tmod a0 3)) % 256), .slice Ao38 x147001_2.length co38] 30 (0, 0)) (by (with_reducible repeat (first | refine blk_drewN ?_ _ | refine blk_drew ?_ | refine blk_alloc ?_ _)); exact BK146.out) hb)
           have n7_ := Aside0.mk (below_step (by repeat (first | (with_reducible first | exact HB.out | apply below_alloc | apply pw_below_drewN | apply below_drew1 | refine below_set ?_ GE146.out) | exact HB.out)) hb)
           clear HO_147001
           clear HO157
           clear HO160
           clear HO166
           clear HO175
           clear BK146
           clear HB
           have HO_147001 := n0_
           have HO157 := n1_
           have HO160 := n2_
           have HO166 := n3_
           have HO175 := n4_
           have HO178 := n5_
           have BK146 := n6_
           have HB := n7_
           clear n0_ n1_ n2_ n3_ n4_ n5_ n6_ n7_
           (try clear hb)
           (try clear hb2)
           (try clear hk)
           (try clear hi)
           (try clear ho0)
           refine hK.out _ _ ⟨(blk_cell BK146.out 0).trans rfl, (blk_cell BK146.out 1).trans rfl⟩ (fun hHeld => ?_)
           clear hK K
           refine norm_ (a' := ?_) ?_ ?_
           rotate_left
           ·show Act.put _ (some 83) _ = _
            simp only [Act.put, List.setIfInBounds_toArray, List.set_cons_zero, List.set_cons_succ, i64_w, i32_w]
            rfl
           refine pure_ (i := 11) (N := some 16) (v := ?_) (a' := ?_) #[true, true, true, true, true, true, true, true, true, true, true, true] rfl rfl (any_of HT_.out (by kernel_rfl)) (fun _ _ _ h => h) (Or.inl ⟨by rfl, ?_⟩) ?_ ?_
           rotate_left
           ·intro w'
            go_simp
            with_reducible rfl
           rotate_left
           ·simp only [Act.put, List.setIfInBounds_toArray, List.set_cons_zero, List.set_cons_succ, i64_w, i32_w]
            rfl
           refine done_ (done_of HT_.out (by kernel_rfl)) ?_
           try go_wp2
           go_meet
           case rel => exact ⟨_, (t176), H', ⟨by have := HJ6.out; have := HK2.out; first | omega | exact Nat.le_refl _⟩, ⟨by (with_reducible repeat (first | apply Kd.R_alloc | apply Kd.R_drewN | apply Kd.R_drew)); exact Kd.R_mono HO157.out (fun _ hk => trivial)⟩, ⟨by (with_reducible repeat (first | apply Kd.V_alloc | apply Kd.V_drewN | apply Kd.V_drew)); exact Kd.V_mono HO178.out (fun _ hk => ⟨hk.2.1, ⟨hk.1, hk.2.2.2⟩⟩)⟩, ⟨by (with_reducible repeat (first | apply Kd.N_alloc | apply Kd.N_drewN | apply Kd.N_drew)); exact Kd.N_mono HO_147001.out (fun _ hk => ⟨hk.1.1, hk.1.2.2.2.2⟩)⟩, ⟨by (with_reducible repeat (first | refine blk_drewN ?_ _ | refine blk_drew ?_ | refine blk_alloc ?_ _)); exact BK146.out⟩, ⟨by repeat (first | (with_reducible first | exact HB.out | apply below_alloc | apply pw_below_drewN | apply below_drew1 | refine below_set ?_ GE146.out) | exact HB.out)⟩⟩
          ·rw [if_neg c45] at H
           exact absurd H (by simp)
         ·rw [if_neg c44] at H
          exact absurd H (by simp)
        ·rw [if_neg c43] at H
         have c43b0 : (((1 + (Int.tmod a0 3)) % 256) == 2) = false := beq_eq_false_iff_ne.mpr c43
         have c43b1 : (((1 + (Int.tmod a0 3)) % 256) != 2) = true := bne_iff_ne.mpr c43
         (first | rw [c43b0] | (simp only [i64_w, i32_w]; rw [c43b0]) | skip)
         have H' := Aside0.mk H
         clear H
         go_wp2
         go_meet
         case rel => exact ⟨_, (t158), H', ⟨by have := HJ6.out; have := HK2.out; first | omega | exact Nat.le_refl _⟩, ⟨by (with_reducible repeat (first | apply Kd.R_alloc | apply Kd.R_drewN | apply Kd.R_drew)); exact HO157.out⟩, ⟨by (with_reducible repeat (first | apply Kd.V_alloc | apply Kd.V_drewN | apply Kd.V_drew)); exact Kd.V_mono HO160.out (fun _ hk => ⟨hk.2.1, ⟨hk.1, hk.2.2⟩⟩)⟩, ⟨by (with_reducible repeat (first | apply Kd.N_alloc | apply Kd.N_drewN | apply Kd.N_drew)); exact Kd.N_mono HO_147001.out (fun _ hk => ⟨hk.2, hk.1⟩)⟩, ⟨by (with_reducible repeat (first | refine blk_drewN ?_ _ | refine blk_drew ?_ | refine blk_alloc ?_ _)); exact BK146.out⟩, ⟨by repeat (first | (with_reducible first | exact HB.out | apply below_alloc | apply pw_below_drewN | apply below_drew1 | refine below_set ?_ GE146.out) | exact HB.out)⟩⟩
       case rest =>
        clear HC36
        try clear c1
        try clear p2
        try clear c4
        try clear c11
        try clear c43
        try clear c43b0
        try clear c43b1
        try clear c44
        try clear c45
        obtain ⟨kq, x16_35, HA, HJ35, HO_15, HO_16, HO_147001, BK146, HB⟩ := hcut
        cases kq with
        | zero => exact absurd HA.out (by simp [kotatsulaw06_DiskForms.j3])
        | succ kj35 =>
         have H := HA.out
         clear HA
         simp only [kotatsulaw06_DiskForms.j3] at H
         have HC64 := Aside0.mk H
         clear H
         go_upto_region 23 with (fail)
         go_cut [92] (fun v92 wc => ∃ (kq : Nat) (x92_63 : Bool), v92 = .bool x92_63 ∧ Aside0 (kotatsulaw06_DiskForms.j4 kq t155 x16_35 x92_63 ((1 + (Int.tmod a0 3)) % 256) x147001_2 = some r) ∧ Aside0 (kq ≤ kj35) ∧ Aside0 (Kd.R (Kd.int .u8) 5 wc w.heap.size (fun _ => True) v156 t155) ∧ Aside0 (Kd.V (Kd.int .u8) 5 wc w.heap.size (fun k_ => some k_ ≠ (v156 : Value).ownBlock ∧ some k_ ≠ ((.slice Ao38 x147001_2.length co38) : Value).ownBlock ∧ k_ ≠ gb146) u16 x16_35) ∧ Aside0 (Kd.N (Kd.slice 5 (Kd.int .u8)) 22 wc w.heap.size (fun k_ => some k_ ≠ (v156 : Value).ownBlock ∧ k_ ≠ gb146) (.slice Ao38 x147001_2.length co38) x147001_2) ∧ Aside0 (wc.heap[gb146]? = some (.cells #[.int .u8 ((1 + (Int.tmod a0 3)) % 256), (.slice Ao38 x147001_2.length co38)] 30 (0, 0))) ∧ Aside0 (Below w.heap.size w wc))
         case first =>
          have H := HC64.out
          clear HC64
          by_cases c65 : ((1 + (Int.tmod a0 3)) % 256) = 1
          ·rw [if_pos c65] at H
           have c65b0 : (((1 + (Int.tmod a0 3)) % 256) == 1) = true := beq_iff_eq.mpr c65
           have c65b1 : (((1 + (Int.tmod a0 3)) % 256) != 1) = false := bne_eq_false_iff_eq.mpr c65
           clear c65
           (first | rw [c65b0] | (simp only [i64_w, i32_w]; rw [c65b0]) | skip)
           by_cases c66 : 4 ≤ (t155.length : Int)
           ·rw [if_pos c66] at H
            have c66b0 := eq_true c66
            have c66b1 : decide (4 ≤ (t155.length : Int)) = true := decide_eq_true c66
            clear c66
            obtain ⟨y179, hy179⟩ : ∃ y_ : List Int, y_ = (t155.take 4) := ⟨_, rfl⟩
            replace H : (kotatsulaw06_DiskForms.j4 kj35 t155 x16_35 ((strOfNums y179).toList == ([70, 68, 83, 26] : List UInt8)) ((1 + (Int.tmod a0 3)) % 256) x147001_2) = some r := by first | (rw [hy179]; with_reducible exact H) | (have H2_ := (Option.bind_some _ _).symm.trans H; rw [hy179]; with_reducible exact H2_) | (have H2_ := (Option.bind_some _ _).symm.trans H; with_reducible exact H2_) | with_reducible exact H | (rw [hy179]; exact H) | exact H
            have Ny179 := Aside0.mk hy179
            clear hy179
            have H' := Aside0.mk H
            clear H
            have hcz67_0 : wc.cell? ⟨gb146, 0, none⟩ = some (.int .u8 ((1 + (Int.tmod a0 3)) % 256)) := (blk_cell BK146.out 0).trans rfl
            have hcz67_1 : wc.cell? ⟨gb146, 1, none⟩ = some (.slice Ao38 x147001_2.length co38) := (blk_cell BK146.out 1).trans rfl
            have hfz67_0 := blk_frozen BK146.out 0
            have hfz67_1 := blk_frozen BK146.out 1
            obtain ⟨Ao69, co69, eo69⟩ := Kd.R_slice HO_15.out
            subst eo69
            have q68 : (4 : Int) ≤ ((t155.length : Int) : Int) := of_decide_eq_true (by first | (with_reducible assumption) | assumption)
            obtain ⟨i068, hi068, _, hsz68, _⟩ := info_parts info5
            have hroom68 : t155.length ≤ co69 := (Kd.R_reads' HO_15.out).2.1
            have hC68 : Kd.F (Kd.int .u8) _ _ Ao69 t155.length t155 := (Kd.V_at (base := w.heap.size) (Kd.R_V (Kd.R_types (Kd.R_apart' (HO_15.out) (Kd.N_typed HO_147001.out) (by decide)) BK146.out (by decide)))).2.2
            have hcut68 := cut_to (P := Try.prog) 22 5 .i64 Try.underlying22 hi068 Ao69 t155.length co69 4 (by omega) q68 hroom68
            have hr68 := Kd.F_take (m := 4) hC68 (by omega)
            have hy68 : y179.length = (4 : Int).toNat := (by rw [Ny179.out, List.length_take]; omega)
            rw [← Ny179.out] at hr68
            rw [← hy68] at hcut68
            have HO183 := Aside0.mk (show Kd.V (Kd.int .u8) 5 _ w.heap.size _ (.slice Ao69 y179.length co69) y179 from Kd.V_mk (by omega) hr68)
            have HC183 := Aside0.mk (show y179.length ≤ co69 from by omega)
            clear hr68 hC68 hroom68 hi068 hsz68
            have KY68 := Aside0.mk hy68
            clear hy68
            replace q68 := eq_true q68
            have hcv70 := Kd.C_string (P := Try.prog) (A := Ao69) (c := co69) Try.underlying22 Try.underlying5 Try.underlying9 (Kd.V_reads' HO183.out).2.2
            go_wp2
            go_meet
            case rel => exact ⟨_, (((strOfNums y179).toList == ([70, 68, 83, 26] : List UInt8))), (by first | rfl | (simp; done) | (simp [*]; done)), H', ⟨by have := HJ6.out; have := HK2.out; have := HJ35.out; first | omega | exact Nat.le_refl _⟩, ⟨by (with_reducible repeat (first | apply Kd.R_alloc | apply Kd.R_drewN | apply Kd.R_drew)); exact HO_15.out⟩, ⟨by (with_reducible repeat (first | apply Kd.V_alloc | apply Kd.V_drewN | apply Kd.V_drew)); exact HO_16.out⟩, ⟨by (with_reducible repeat (first | apply Kd.N_alloc | apply Kd.N_drewN | apply Kd.N_drew)); exact HO_147001.out⟩, ⟨by (with_reducible repeat (first | refine blk_drewN ?_ _ | refine blk_drew ?_ | refine blk_alloc ?_ _)); exact BK146.out⟩, ⟨by repeat (first | (with_reducible first | exact HB.out | apply below_alloc | apply pw_below_drewN | apply below_drew1 | refine below_set ?_ GE146.out) | exact HB.out)⟩⟩
           ·rw [if_neg c66] at H
            exact absurd H (by simp)
          ·rw [if_neg c65] at H
           have c65b0 : (((1 + (Int.tmod a0 3)) % 256) == 1) = false := beq_eq_false_iff_ne.mpr c65
           have c65b1 : (((1 + (Int.tmod a0 3)) % 256) != 1) = true := bne_iff_ne.mpr c65
           (first | rw [c65b0] | (simp only [i64_w, i32_w]; rw [c65b0]) | skip)
           have H' := Aside0.mk H
           clear H
           have hcz71_0 : wc.cell? ⟨gb146, 0, none⟩ = some (.int .u8 ((1 + (Int.tmod a0 3)) % 256)) := (blk_cell BK146.out 0).trans rfl
           have hcz71_1 : wc.cell? ⟨gb146, 1, none⟩ = some (.slice Ao38 x147001_2.length co38) := (blk_cell BK146.out 1).trans rfl
           have hfz71_0 := blk_frozen BK146.out 0
           have hfz71_1 := blk_frozen BK146.out 1
           go_wp2
           go_meet
           case rel => exact ⟨_, (false), (by first | rfl | (simp; done) | (simp [*]; done)), H', ⟨by have := HJ6.out; have := HK2.out; have := HJ35.out; first | omega | exact Nat.le_refl _⟩, ⟨by (with_reducible repeat (first | apply Kd.R_alloc | apply Kd.R_drewN | apply Kd.R_drew)); exact HO_15.out⟩, ⟨by (with_reducible repeat (first | apply Kd.V_alloc | apply Kd.V_drewN | apply Kd.V_drew)); exact HO_16.out⟩, ⟨by (with_reducible repeat (first | apply Kd.N_alloc | apply Kd.N_drewN | apply Kd.N_drew)); exact HO_147001.out⟩, ⟨by (with_reducible repeat (first | refine blk_drewN ?_ _ | refine blk_drew ?_ | refine blk_alloc ?_ _)); exact BK146.out⟩, ⟨by repeat (first | (with_reducible first | exact HB.out | apply below_alloc | apply pw_below_drewN | apply below_drew1 | refine below_set ?_ GE146.out) | exact HB.out)⟩⟩
         case rest =>
          clear HC64
          try clear c1
          try clear p2
          try clear c4
          try clear c6
          try clear q6
          try clear hcv7
          try clear c11
          try clear c43
          try clear c43b0
          try clear c43b1
          try clear c44
          try clear c45
          try clear c65
          try clear c65b0
          try clear c65b1
          try clear c66
          try clear c66b0
          try clear c66b1
          try clear q68
          try clear hcv70
          try clear hcz67_0
          try clear hcz67_1
          try clear hcz71_0
          try clear hcz71_1
          try clear hfz67_0
          try clear hfz67_1
          try clear hfz71_0
          try clear hfz71_1
          try clear p2
          try clear q68
          obtain ⟨kq, x92_63, rfl, HA, HJ63, HO_15, HO_16, HO_147001, BK146, HB⟩ := hcut
          cases kq with
          | zero => exact absurd HA.out (by simp [kotatsulaw06_DiskForms.j4])
          | succ kj63 =>
           have H := HA.out
           clear HA
           simp only [kotatsulaw06_DiskForms.j4] at H
           by_cases c72 : x92_63 = true
           ·subst c72
            have H1 : (some true) = some r := by rw [if_pos rfl] at H; exact H
            clear H
            have H := H1
            clear H1
            obtain rfl := Option.some.inj H
            go_wp2
            go_ret
            exact ⟨by first | rfl | (simp [errW_none, errW_some] <;> rfl) | (simp [*, errW_none, errW_some] <;> rfl), by repeat (first | (with_reducible first | exact HB.out | apply below_alloc | apply pw_below_drewN | apply below_drew1 | refine below_set ?_ GE146.out) | exact HB.out)⟩
           ·replace c72 := Bool.eq_false_iff.mpr c72
            subst c72
            have H1 : ((disk_Parse.f kj63 t155).bind fun bt184 => ((disk_Set_Right.f kj63 ((1 + (Int.tmod a0 3)) % 256) x147001_2).bind fun t190 => (if t190 = true then ((kotatsuref01_Same.f kj63 t155 x16_35).bind fun t191 => (if t191 = true then (if bt184.2.2 = 0 then ((disk_Same.f bt184.1 bt184.2.1 ((1 + (Int.tmod a0 3)) % 256) x147001_2).bind fun t192 => (some t192)) else (some false)) else (some false))) else (some false)))) = some r := by rw [if_neg (show ¬ (false = true) by decide)] at H; exact H
            clear H
            have H := H1
            clear H1
            replace H := Option.bind_eq_some_iff.mp H
            obtain ⟨⟨t184, t185, t188⟩, A730, H⟩ := H
            replace H : ((disk_Set_Right.f kj63 ((1 + (Int.tmod a0 3)) % 256) x147001_2).bind fun t190 => (if t190 = true then ((kotatsuref01_Same.f kj63 t155 x16_35).bind fun t191 => (if t191 = true then (if t188 = 0 then ((disk_Same.f t184 t185 ((1 + (Int.tmod a0 3)) % 256) x147001_2).bind fun t192 => (some t192)) else (some false)) else (some false))) else (some false))) = some r := H
            have A73 := Aside0.mk A730
            clear A730
            replace H := Option.bind_eq_some_iff.mp H
            obtain ⟨t190, A740, H⟩ := H
            replace H : (if t190 = true then ((kotatsuref01_Same.f kj63 t155 x16_35).bind fun t191 => (if t191 = true then (if t188 = 0 then ((disk_Same.f t184 t185 ((1 + (Int.tmod a0 3)) % 256) x147001_2).bind fun t192 => (some t192)) else (some false)) else (some false))) else (some false)) = some r := H
            have A74 := Aside0.mk A740
            clear A740
            by_cases c75 : t190 = true
            ·subst c75
             have H1 : ((kotatsuref01_Same.f kj63 t155 x16_35).bind fun t191 => (if t191 = true then (if t188 = 0 then ((disk_Same.f t184 t185 ((1 + (Int.tmod a0 3)) % 256) x147001_2).bind fun t192 => (some t192)) else (some false)) else (some false))) = some r := by rw [if_pos rfl] at H; exact H
             clear H
             have H := H1
             clear H1
             replace H := Option.bind_eq_some_iff.mp H
             obtain ⟨t191, A760, H⟩ := H
             replace H : (if t191 = true then (if t188 = 0 then ((disk_Same.f t184 t185 ((1 + (Int.tmod a0 3)) % 256) x147001_2).bind fun t192 => (some t192)) else (some false)) else (some false)) = some r := H
             have A76 := Aside0.mk A760
             clear A760
             by_cases c77 : t191 = true
             ·subst c77
              have H1 : (if t188 = 0 then ((disk_Same.f t184 t185 ((1 + (Int.tmod a0 3)) % 256) x147001_2).bind fun t192 => (some t192)) else (some false)) = some r := by rw [if_pos rfl] at H; exact H
              clear H
              have H := H1
              clear H1
              by_cases c78 : t188 = 0
              ·rw [if_pos c78] at H
               have c78b0 : (t188 == 0) = true := beq_iff_eq.mpr c78
               have c78b1 : (t188 != 0) = false := bne_eq_false_iff_eq.mpr c78
               clear c78
               replace H := Option.bind_eq_some_iff.mp H
               obtain ⟨t192, A790, H⟩ := H
               replace H : (some t192) = some r := H
               have A79 := Aside0.mk A790
               clear A790
               obtain rfl := Option.some.inj H
               obtain ⟨Ao80, co80, eo80⟩ := Kd.R_slice HO_15.out
               subst eo80
               go_wp2_with (first | ((with_reducible refine gate_callee (f := 12) rfl ?_); refine goesL_ (some 95) rfl rfl Try.func12 (by kernel_rfl) rfl #[.slice Ao80 t155.length co80] rfl (by (try simp only [List.map_toArray, List.map_cons, List.map_nil]); first | done | rfl | (simp only [List.length_drop, List.length_take]; rfl)) ?_; (with_reducible refine (disk_Parse.calls kj63 _ _ t155 t184 t185 t188 _ ?side1 ?side2 A73.out).mono ?_); (case side1 => repeat (first | exact (Kd.R_reads' HO_15.out).2.2 | (with_reducible refine Kd.C_alloc ?_ _) | (with_reducible refine Kd.C_drewN ?_ _) | (with_reducible refine Kd.C_drew ?_))); (case side2 => exact (Kd.R_reads' HO_15.out).2.1); rintro e w81 ⟨v186, rfl, ho0, hb⟩; refine ⟨_, rfl, ?_⟩; have n0_ := Aside0.mk (Kd.R_below (by (with_reducible repeat (first | apply Kd.R_alloc | apply Kd.R_drewN | apply Kd.R_drew)); exact HO_15.out) hb); have n1_ := Aside0.mk (Kd.V_below (by (with_reducible repeat (first | apply Kd.V_alloc | apply Kd.V_drewN | apply Kd.V_drew)); exact HO_16.out) hb); have n2_ := Aside0.mk (Kd.N_below (by (with_reducible repeat (first | apply Kd.N_alloc | apply Kd.N_drewN | apply Kd.N_drew)); exact HO_147001.out) hb); have n3_ := Aside0.mk (Kd.V_lower (Kd.V_mono (ok' := fun k_ => some k_ ≠ (.slice Ao80 t155.length co80 : Value).ownBlock ∧ some k_ ≠ (.slice Ao38 x147001_2.length co38 : Value).ownBlock ∧ k_ ≠ gb146) ho0 (fun k_ hk_ => ⟨(Kd.fresh' (Kd.R_lt (by (with_reducible repeat (first | apply Kd.R_alloc | apply Kd.R_drewN | apply Kd.R_drew)); exact HO_15.out)) k_ hk_), (Kd.fresh' (Kd.N_lt (by (with_reducible repeat (first | apply Kd.N_alloc | apply Kd.N_drewN | apply Kd.N_drew)); exact HO_147001.out)) k_ hk_), (Kd.freshB (g := gb146) (o := .cells #[.int .u8 ((1 + (Int.tmod a0 3)) % 256), .slice Ao38 x147001_2.length co38] 30 (0, 0)) (by (with_reducible repeat (first | refine blk_drewN ?_ _ | refine blk_drew ?_ | refine blk_alloc ?_ _)); exact BK146.out) k_ hk_)⟩)) (below_size (by repeat (first | (with_reducible first | exact HB.out | apply below_alloc | apply pw_below_drewN | apply below_drew1 | refine below_set ?_ GE146.out) | exact HB.out)))); have n4_ := Aside0.mk (blk_below (g := gb146) (o := .cells #[.int .u8 ((1 + (Int.tmod a0 3)) % 256), .slice Ao38 x147001_2.length co38] 30 (0, 0)) (by (with_reducible repeat (first | refine blk_drewN ?_ _ | refine blk_drew ?_ | refine blk_alloc ?_ _)); exact BK146.out) hb); have n5_ := Aside0.mk (below_step (by repeat (first | (with_reducible first | exact HB.out | apply below_alloc | apply pw_below_drewN | apply below_drew1 | refine below_set ?_ GE146.out) | exact HB.out)) hb); clear HO_15; clear HO_16; clear HO_147001; clear BK146; clear HB; have HO_15 := n0_; have HO_16 := n1_; have HO_147001 := n2_; have HO187 := n3_; have BK146 := n4_; have HB := n5_; clear n0_ n1_ n2_ n3_ n4_ n5_; (try clear hb); (try clear hb2); (try clear hk); (try clear hi); (try clear ho0)) | ((with_reducible refine gate_dst (N := 17) rfl ?_); refine box_event ?hg (N := 17) ?hd (cs := #[.int .u8 0, .slice none 0 0]) (t := 30) ?hr ?_; (case hd => rfl); (case hg => rfl); (case hr => first | (go_simp; done) | (go_simp; rfl)); intro gb189 hg w82 hbox hb; have n0_ := Aside0.mk (Kd.R_below (by (with_reducible repeat (first | apply Kd.R_alloc | apply Kd.R_drewN | apply Kd.R_drew)); exact HO_15.out) hb); have n1_ := Aside0.mk (Kd.V_below (Kd.V_elderB (by (with_reducible repeat (first | apply Kd.V_alloc | apply Kd.V_drewN | apply Kd.V_drew)); exact HO_16.out) gb189 (Nat.le_of_eq hg.symm)) hb); have n2_ := Aside0.mk (Kd.N_below (Kd.N_elderB (by (with_reducible repeat (first | apply Kd.N_alloc | apply Kd.N_drewN | apply Kd.N_drew)); exact HO_147001.out) gb189 (Nat.le_of_eq hg.symm)) hb); have n3_ := Aside0.mk (Kd.V_below (Kd.V_elderB (by (with_reducible repeat (first | apply Kd.V_alloc | apply Kd.V_drewN | apply Kd.V_drew)); exact HO187.out) gb189 (Nat.le_of_eq hg.symm)) hb); have n4_ := Aside0.mk (blk_below (g := gb146) (o := .cells #[.int .u8 ((1 + (Int.tmod a0 3)) % 256), .slice Ao38 x147001_2.length co38] 30 (0, 0)) (by (with_reducible repeat (first | refine blk_drewN ?_ _ | refine blk_drew ?_ | refine blk_alloc ?_ _)); exact BK146.out) hb); have n5_ := Aside0.mk (below_step (by repeat (first | (with_reducible first | exact HB.out | apply below_alloc | apply pw_below_drewN | apply below_drew1 | refine below_set ?_ GE146.out) | exact HB.out)) hb); have n6_ := Aside0.mk (hbox); have n7_ := Aside0.mk ((by rw [hg]; exact (below_size (by repeat (first | (with_reducible first | exact HB.out | apply below_alloc | apply pw_below_drewN | apply below_drew1 | refine below_set ?_ GE146.out) | exact HB.out))) : w.heap.size ≤ gb189)); have n8_ := Aside0.mk ((by rw [hg]; exact (below_size (by repeat (first | (with_reducible first | exact HB.out | apply below_alloc | apply pw_below_drewN | apply below_drew1 | refine below_set ?_ GE146.out) | exact HB.out))) : w.heap.size ≤ gb189)); have n9_ := Aside0.mk ((by rw [hg]; exact Nat.ne_of_lt (blk_lt (g := gb146) (o := .cells #[.int .u8 ((1 + (Int.tmod a0 3)) % 256), .slice Ao38 x147001_2.length co38] 30 (0, 0)) (by (with_reducible repeat (first | refine blk_drewN ?_ _ | refine blk_drew ?_ | refine blk_alloc ?_ _)); exact BK146.out)) : gb146 ≠ gb189)); have n10_ := Aside0.mk ((by rw [hg]; exact Nat.ne_of_gt (blk_lt (g := gb146) (o := .cells #[.int .u8 ((1 + (Int.tmod a0 3)) % 256), .slice Ao38 x147001_2.length co38] 30 (0, 0)) (by (with_reducible repeat (first | refine blk_drewN ?_ _ | refine blk_drew ?_ | refine blk_alloc ?_ _)); exact BK146.out)) : gb189 ≠ gb146)); clear HO_15; clear HO_16; clear HO_147001; clear HO187; clear BK146; clear HB; have HO_15 := n0_; have HO_16 := n1_; have HO_147001 := n2_; have HO187 := n3_; have BK146 := n4_; have HB := n5_; have BK189 := n6_; have GW189 := n7_; have GE189 := n8_; have NB146_189 := n9_; have NB189_146 := n10_; clear n0_ n1_ n2_ n3_ n4_ n5_ n6_ n7_ n8_ n9_ n10_; clear hb hbox hg; have hnb83 := NB189_146.out; have hnc83 := NB146_189.out; have hcz84_0 : w82.cell? ⟨gb189, 0, none⟩ = some (.int .u8 0) := (blk_cell BK189.out 0).trans rfl; have hcz84_1 : w82.cell? ⟨gb189, 1, none⟩ = some (.slice none 0 0) := (blk_cell BK189.out 1).trans rfl; have hfz84_0 := blk_frozen BK189.out 0; have hfz84_1 := blk_frozen BK189.out 1; obtain ⟨Ao85, co85, eo85⟩ := Kd.V_slice HO187.out; subst eo85; have hcz86_0 : w82.cell? ⟨gb146, 0, none⟩ = some (.int .u8 ((1 + (Int.tmod a0 3)) % 256)) := (blk_cell BK146.out 0).trans rfl; have hcz86_1 : w82.cell? ⟨gb146, 1, none⟩ = some (.slice Ao38 x147001_2.length co38) := (blk_cell BK146.out 1).trans rfl; have hfz86_0 := blk_frozen BK146.out 0; have hfz86_1 := blk_frozen BK146.out 1) | ((with_reducible refine gate_callee (f := 16) rfl ?_); refine goesL_ (some 99) rfl rfl Try.func16 (by kernel_rfl) rfl #[.agg #[.int .u8 ((1 + (Int.tmod a0 3)) % 256), .slice Ao38 x147001_2.length co38]] rfl (by (try simp only [List.map_toArray, List.map_cons, List.map_nil]); first | done | rfl | (simp only [List.length_drop, List.length_take]; rfl)) ?_; (with_reducible refine (disk_Set_Right.calls kj63 ((1 + (Int.tmod a0 3)) % 256) _ _ x147001_2 true _ ?side1 ?side2 A74.out).mono ?_); (case side1 => refine (Kd.N_reads' (e := 22) (base := w.heap.size) (ok := fun k_ => ((some k_ ≠ (.slice Ao80 t155.length co80 : Value).ownBlock ∧ k_ ≠ gb146) ∧ k_ ≠ gb189)) (n := x147001_2.length) (c := co38) ?_).2.2; exact (by (with_reducible repeat (first | apply Kd.N_alloc | apply Kd.N_drewN | apply Kd.N_drew)); exact (Kd.N_mono (Kd.N_far (p := ⟨gb189, 1, none⟩) (Kd.N_far (p := ⟨gb189, 0, none⟩) (Kd.N_mono HO_147001.out (fun k_ hk => (⟨hk, hk.2⟩ : _ ∧ k_ ≠ gb189))) (fun _ hk => hk.2) (.int .u8 t184)) (fun _ hk => hk.2) (.slice Ao85 t185.length co85)) (fun _ h_ => h_.1)))); (case side2 => exact (Kd.N_reads' HO_147001.out).2.1); rintro e w87 ⟨rfl, hb⟩; refine ⟨_, rfl, ?_⟩; have n0_ := Aside0.mk (Kd.R_below (by (with_reducible repeat (first | apply Kd.R_alloc | apply Kd.R_drewN | apply Kd.R_drew)); exact (Kd.R_mono (Kd.R_far (p := ⟨gb189, 1, none⟩) (Kd.R_far (p := ⟨gb189, 0, none⟩) (Kd.R_types HO_15.out BK189.out (by decide)) (fun _ hk => hk.2) (.int .u8 t184)) (fun _ hk => hk.2) (.slice Ao85 t185.length co85)) (fun _ h_ => h_.1))) hb); have n1_ := Aside0.mk (Kd.V_below (by (with_reducible repeat (first | apply Kd.V_alloc | apply Kd.V_drewN | apply Kd.V_drew)); exact (Kd.V_mono (Kd.V_far (p := ⟨gb189, 1, none⟩) (Kd.V_far (p := ⟨gb189, 0, none⟩) (Kd.V_mono HO_16.out (fun k_ hk => (⟨hk, hk.2⟩ : _ ∧ k_ ≠ gb189))) (fun _ hk => hk.2) (.int .u8 t184)) (fun _ hk => hk.2) (.slice Ao85 t185.length co85)) (fun _ h_ => h_.1))) hb); have n2_ := Aside0.mk (Kd.N_below (by (with_reducible repeat (first | apply Kd.N_alloc | apply Kd.N_drewN | apply Kd.N_drew)); exact (Kd.N_mono (Kd.N_far (p := ⟨gb189, 1, none⟩) (Kd.N_far (p := ⟨gb189, 0, none⟩) (Kd.N_mono HO_147001.out (fun k_ hk => (⟨hk, hk.2⟩ : _ ∧ k_ ≠ gb189))) (fun _ hk => hk.2) (.int .u8 t184)) (fun _ hk => hk.2) (.slice Ao85 t185.length co85)) (fun _ h_ => h_.1))) hb); have n3_ := Aside0.mk (Kd.V_below (by (with_reducible repeat (first | apply Kd.V_alloc | apply Kd.V_drewN | apply Kd.V_drew)); exact (Kd.V_mono (Kd.V_far (p := ⟨gb189, 1, none⟩) (Kd.V_far (p := ⟨gb189, 0, none⟩) (Kd.V_mono HO187.out (fun k_ hk => (⟨hk, hk.2⟩ : _ ∧ k_ ≠ gb189))) (fun _ hk => hk.2) (.int .u8 t184)) (fun _ hk => hk.2) (.slice Ao85 t185.length co85)) (fun _ h_ => h_.1))) hb); have n4_ := Aside0.mk (blk_below (g := gb146) (o := .cells #[.int .u8 ((1 + (Int.tmod a0 3)) % 256), .slice Ao38 x147001_2.length co38] 30 (0, 0)) (by (with_reducible repeat (first | refine blk_drewN ?_ _ | refine blk_drew ?_ | refine blk_alloc ?_ _)); refine blk_far ?_ NB146_189.out _; (with_reducible repeat (first | refine blk_drewN ?_ _ | refine blk_drew ?_ | refine blk_alloc ?_ _)); refine blk_far ?_ NB146_189.out _; (with_reducible repeat (first | refine blk_drewN ?_ _ | refine blk_drew ?_ | refine blk_alloc ?_ _)); exact BK146.out) hb); have n5_ := Aside0.mk (blk_below (g := gb189) (o := .cells #[.int .u8 t184, .slice Ao85 t185.length co85] 30 (0, 0)) (by (with_reducible repeat (first | refine blk_drewN ?_ _ | refine blk_drew ?_ | refine blk_alloc ?_ _)); refine blk_put (cs := #[.int .u8 t184, .slice none 0 0]) ?_ 1 _ rfl; (with_reducible repeat (first | refine blk_drewN ?_ _ | refine blk_drew ?_ | refine blk_alloc ?_ _)); refine blk_put (cs := #[.int .u8 0, .slice none 0 0]) ?_ 0 _ rfl; (with_reducible repeat (first | refine blk_drewN ?_ _ | refine blk_drew ?_ | refine blk_alloc ?_ _)); exact BK189.out) hb); have n6_ := Aside0.mk (below_step (by repeat (first | (with_reducible first | exact HB.out | apply below_alloc | apply pw_below_drewN | apply below_drew1 | refine below_set ?_ GE146.out | refine below_set ?_ GE189.out) | exact HB.out)) hb); clear HO_15; clear HO_16; clear HO_147001; clear HO187; clear BK146; clear BK189; clear HB; have HO_15 := n0_; have HO_16 := n1_; have HO_147001 := n2_; have HO187 := n3_; have BK146 := n4_; have BK189 := n5_; have HB := n6_; clear n0_ n1_ n2_ n3_ n4_ n5_ n6_; (try clear hb); (try clear hb2); (try clear hk); (try clear hi); obtain ⟨Ao88, co88, eo88⟩ := Kd.V_slice HO_16.out; subst eo88) | (go_at_call 14; (with_reducible refine (kotatsuref01_Same.calls kj63 _ _ t155 _ _ x16_35 true _ ?side1 ?side2 ?side3 ?side4 A76.out).mono ?_); (case side1 => repeat (first | exact (Kd.R_reads' HO_15.out).2.2 | (with_reducible refine Kd.C_alloc ?_ _) | (with_reducible refine Kd.C_drewN ?_ _) | (with_reducible refine Kd.C_drew ?_))); (case side2 => exact (Kd.R_reads' HO_15.out).2.1); (case side3 => repeat (first | exact (Kd.V_reads' HO_16.out).2.2 | (with_reducible refine Kd.C_alloc ?_ _) | (with_reducible refine Kd.C_drewN ?_ _) | (with_reducible refine Kd.C_drew ?_))); (case side4 => exact (Kd.V_reads' HO_16.out).2.1); rintro e w' ⟨rfl, ⟨nd, rfl⟩⟩; have hcz89_0 : w87.cell? ⟨gb189, 0, none⟩ = some (.int .u8 t184) := (blk_cell BK189.out 0).trans rfl; have hcz89_1 : w87.cell? ⟨gb189, 1, none⟩ = some (.slice Ao85 t185.length co85) := (blk_cell BK189.out 1).trans rfl; have hfz89_0 := blk_frozen BK189.out 0; have hfz89_1 := blk_frozen BK189.out 1; have hcz90_0 : w87.cell? ⟨gb146, 0, none⟩ = some (.int .u8 ((1 + (Int.tmod a0 3)) % 256)) := (blk_cell BK146.out 0).trans rfl; have hcz90_1 : w87.cell? ⟨gb146, 1, none⟩ = some (.slice Ao38 x147001_2.length co38) := (blk_cell BK146.out 1).trans rfl; have hfz90_0 := blk_frozen BK146.out 0; have hfz90_1 := blk_frozen BK146.out 1) | (go_at_call 17; (with_reducible refine (disk_Same.calls t184 _ _ t185 ((1 + (Int.tmod a0 3)) % 256) _ _ x147001_2 t192 _ ?side1 ?side2 ?side3 ?side4 A79.out).mono ?_); (case side1 => repeat (first | exact (Kd.V_reads' HO187.out).2.2 | (with_reducible refine Kd.C_alloc ?_ _) | (with_reducible refine Kd.C_drewN ?_ _) | (with_reducible refine Kd.C_drew ?_))); (case side2 => exact (Kd.V_reads' HO187.out).2.1); (case side3 => repeat (first | exact (Kd.N_reads' HO_147001.out).2.2 | (with_reducible refine Kd.C_alloc ?_ _) | (with_reducible refine Kd.C_drewN ?_ _) | (with_reducible refine Kd.C_drew ?_))); (case side4 => exact (Kd.N_reads' HO_147001.out).2.1); rintro e w91 ⟨rfl, hb⟩; have n0_ := Aside0.mk (Kd.R_below (by (with_reducible repeat (first | apply Kd.R_alloc | apply Kd.R_drewN | apply Kd.R_drew)); exact HO_15.out) hb); have n1_ := Aside0.mk (Kd.V_below (by (with_reducible repeat (first | apply Kd.V_alloc | apply Kd.V_drewN | apply Kd.V_drew)); exact HO_16.out) hb); have n2_ := Aside0.mk (Kd.N_below (by (with_reducible repeat (first | apply Kd.N_alloc | apply Kd.N_drewN | apply Kd.N_drew)); exact HO_147001.out) hb); have n3_ := Aside0.mk (Kd.V_below (by (with_reducible repeat (first | apply Kd.V_alloc | apply Kd.V_drewN | apply Kd.V_drew)); exact HO187.out) hb); have n4_ := Aside0.mk (blk_below (g := gb146) (o := .cells #[.int .u8 ((1 + (Int.tmod a0 3)) % 256), .slice Ao38 x147001_2.length co38] 30 (0, 0)) (by (with_reducible repeat (first | refine blk_drewN ?_ _ | refine blk_drew ?_ | refine blk_alloc ?_ _)); exact BK146.out) hb); have n5_ := Aside0.mk (blk_below (g := gb189) (o := .cells #[.int .u8 t184, .slice Ao85 t185.length co85] 30 (0, 0)) (by (with_reducible repeat (first | refine blk_drewN ?_ _ | refine blk_drew ?_ | refine blk_alloc ?_ _)); exact BK189.out) hb); have n6_ := Aside0.mk (below_step (by repeat (first | (with_reducible first | exact HB.out | apply below_alloc | apply pw_below_drewN | apply below_drew1 | refine below_set ?_ GE146.out | refine below_set ?_ GE189.out) | exact HB.out)) hb); clear HO_15; clear HO_16; clear HO_147001; clear HO187; clear BK146; clear BK189; clear HB; have HO_15 := n0_; have HO_16 := n1_; have HO_147001 := n2_; have HO187 := n3_; have BK146 := n4_; have BK189 := n5_; have HB := n6_; clear n0_ n1_ n2_ n3_ n4_ n5_ n6_; (try clear hb); (try clear hb2); (try clear hk); (try clear hi)))
               go_ret
               exact ⟨by first | rfl | (simp [errW_none, errW_some] <;> rfl) | (simp [*, errW_none, errW_some] <;> rfl), by repeat (first | (with_reducible first | exact HB.out | apply below_alloc | apply pw_below_drewN | apply below_drew1 | refine below_set ?_ GE146.out | refine below_set ?_ GE189.out) | exact HB.out)⟩
              ·rw [if_neg c78] at H
               have c78b0 : (t188 == 0) = false := beq_eq_false_iff_ne.mpr c78
               have c78b1 : (t188 != 0) = true := bne_iff_ne.mpr c78
               obtain rfl := Option.some.inj H
               obtain ⟨Ao92, co92, eo92⟩ := Kd.R_slice HO_15.out
               subst eo92
               go_wp2_with (first | ((with_reducible refine gate_callee (f := 12) rfl ?_); refine goesL_ (some 95) rfl rfl Try.func12 (by kernel_rfl) rfl #[.slice Ao92 t155.length co92] rfl (by (try simp only [List.map_toArray, List.map_cons, List.map_nil]); first | done | rfl | (simp only [List.length_drop, List.length_take]; rfl)) ?_; (with_reducible refine (disk_Parse.calls kj63 _ _ t155 t184 t185 t188 _ ?side1 ?side2 A73.out).mono ?_); (case side1 => repeat (first | exact (Kd.R_reads' HO_15.out).2.2 | (with_reducible refine Kd.C_alloc ?_ _) | (with_reducible refine Kd.C_drewN ?_ _) | (with_reducible refine Kd.C_drew ?_))); (case side2 => exact (Kd.R_reads' HO_15.out).2.1); rintro e w93 ⟨v186, rfl, ho0, hb⟩; refine ⟨_, rfl, ?_⟩; have n0_ := Aside0.mk (Kd.R_below (by (with_reducible repeat (first | apply Kd.R_alloc | apply Kd.R_drewN | apply Kd.R_drew)); exact HO_15.out) hb); have n1_ := Aside0.mk (Kd.V_below (by (with_reducible repeat (first | apply Kd.V_alloc | apply Kd.V_drewN | apply Kd.V_drew)); exact HO_16.out) hb); have n2_ := Aside0.mk (Kd.N_below (by (with_reducible repeat (first | apply Kd.N_alloc | apply Kd.N_drewN | apply Kd.N_drew)); exact HO_147001.out) hb); have n3_ := Aside0.mk (Kd.V_lower (Kd.V_mono (ok' := fun k_ => some k_ ≠ (.slice Ao92 t155.length co92 : Value).ownBlock ∧ some k_ ≠ (.slice Ao38 x147001_2.length co38 : Value).ownBlock ∧ k_ ≠ gb146) ho0 (fun k_ hk_ => ⟨(Kd.fresh' (Kd.R_lt (by (with_reducible repeat (first | apply Kd.R_alloc | apply Kd.R_drewN | apply Kd.R_drew)); exact HO_15.out)) k_ hk_), (Kd.fresh' (Kd.N_lt (by (with_reducible repeat (first | apply Kd.N_alloc | apply Kd.N_drewN | apply Kd.N_drew)); exact HO_147001.out)) k_ hk_), (Kd.freshB (g := gb146) (o := .cells #[.int .u8 ((1 + (Int.tmod a0 3)) % 256), .slice Ao38 x147001_2.length co38] 30 (0, 0)) (by (with_reducible repeat (first | refine blk_drewN ?_ _ | refine blk_drew ?_ | refine blk_alloc ?_ _)); exact BK146.out) k_ hk_)⟩)) (below_size (by repeat (first | (with_reducible first | exact HB.out | apply below_alloc | apply pw_below_drewN | apply below_drew1 | refine below_set ?_ GE146.out) | exact HB.out)))); have n4_ := Aside0.mk (blk_below (g := gb146) (o := .cells #[.int .u8 ((1 + (Int.tmod a0 3)) % 256), .slice Ao38 x147001_2.length co38] 30 (0, 0)) (by (with_reducible repeat (first | refine blk_drewN ?_ _ | refine blk_drew ?_ | refine blk_alloc ?_ _)); exact BK146.out) hb); have n5_ := Aside0.mk (below_step (by repeat (first | (with_reducible first | exact HB.out | apply below_alloc | apply pw_below_drewN | apply below_drew1 | refine below_set ?_ GE146.out) | exact HB.out)) hb); clear HO_15; clear HO_16; clear HO_147001; clear BK146; clear HB; have HO_15 := n0_; have HO_16 := n1_; have HO_147001 := n2_; have HO187 := n3_; have BK146 := n4_; have HB := n5_; clear n0_ n1_ n2_ n3_ n4_ n5_; (try clear hb); (try clear hb2); (try clear hk); (try clear hi); (try clear ho0)) | ((with_reducible refine gate_dst (N := 17) rfl ?_); refine box_event ?hg (N := 17) ?hd (cs := #[.int .u8 0, .slice none 0 0]) (t := 30) ?hr ?_; (case hd => rfl); (case hg => rfl); (case hr => first | (go_simp; done) | (go_simp; rfl)); intro gb189 hg w94 hbox hb; have n0_ := Aside0.mk (Kd.R_below (by (with_reducible repeat (first | apply Kd.R_alloc | apply Kd.R_drewN | apply Kd.R_drew)); exact HO_15.out) hb); have n1_ := Aside0.mk (Kd.V_below (Kd.V_elderB (by (with_reducible repeat (first | apply Kd.V_alloc | apply Kd.V_drewN | apply Kd.V_drew)); exact HO_16.out) gb189 (Nat.le_of_eq hg.symm)) hb); have n2_ := Aside0.mk (Kd.N_below (Kd.N_elderB (by (with_reducible repeat (first | apply Kd.N_alloc | apply Kd.N_drewN | apply Kd.N_drew)); exact HO_147001.out) gb189 (Nat.le_of_eq hg.symm)) hb); have n3_ := Aside0.mk (Kd.V_below (Kd.V_elderB (by (with_reducible repeat (first | apply Kd.V_alloc | apply Kd.V_drewN | apply Kd.V_drew)); exact HO187.out) gb189 (Nat.le_of_eq hg.symm)) hb); have n4_ := Aside0.mk (blk_below (g := gb146) (o := .cells #[.int .u8 ((1 + (Int.tmod a0 3)) % 256), .slice Ao38 x147001_2.length co38] 30 (0, 0)) (by (with_reducible repeat (first | refine blk_drewN ?_ _ | refine blk_drew ?_ | refine blk_alloc ?_ _)); exact BK146.out) hb); have n5_ := Aside0.mk (below_step (by repeat (first | (with_reducible first | exact HB.out | apply below_alloc | apply pw_below_drewN | apply below_drew1 | refine below_set ?_ GE146.out) | exact HB.out)) hb); have n6_ := Aside0.mk (hbox); have n7_ := Aside0.mk ((by rw [hg]; exact (below_size (by repeat (first | (with_reducible first | exact HB.out | apply below_alloc | apply pw_below_drewN | apply below_drew1 | refine below_set ?_ GE146.out) | exact HB.out))) : w.heap.size ≤ gb189)); have n8_ := Aside0.mk ((by rw [hg]; exact (below_size (by repeat (first | (with_reducible first | exact HB.out | apply below_alloc | apply pw_below_drewN | apply below_drew1 | refine below_set ?_ GE146.out) | exact HB.out))) : w.heap.size ≤ gb189)); have n9_ := Aside0.mk ((by rw [hg]; exact Nat.ne_of_lt (blk_lt (g := gb146) (o := .cells #[.int .u8 ((1 + (Int.tmod a0 3)) % 256), .slice Ao38 x147001_2.length co38] 30 (0, 0)) (by (with_reducible repeat (first | refine blk_drewN ?_ _ | refine blk_drew ?_ | refine blk_alloc ?_ _)); exact BK146.out)) : gb146 ≠ gb189)); have n10_ := Aside0.mk ((by rw [hg]; exact Nat.ne_of_gt (blk_lt (g := gb146) (o := .cells #[.int .u8 ((1 + (Int.tmod a0 3)) % 256), .slice Ao38 x147001_2.length co38] 30 (0, 0)) (by (with_reducible repeat (first | refine blk_drewN ?_ _ | refine blk_drew ?_ | refine blk_alloc ?_ _)); exact BK146.out)) : gb189 ≠ gb146)); clear HO_15; clear HO_16; clear HO_147001; clear HO187; clear BK146; clear HB; have HO_15 := n0_; have HO_16 := n1_; have HO_147001 := n2_; have HO187 := n3_; have BK146 := n4_; have HB := n5_; have BK189 := n6_; have GW189 := n7_; have GE189 := n8_; have NB146_189 := n9_; have NB189_146 := n10_; clear n0_ n1_ n2_ n3_ n4_ n5_ n6_ n7_ n8_ n9_ n10_; clear hb hbox hg; have hnb95 := NB189_146.out; have hnc95 := NB146_189.out; have hcz96_0 : w94.cell? ⟨gb189, 0, none⟩ = some (.int .u8 0) := (blk_cell BK189.out 0).trans rfl; have hcz96_1 : w94.cell? ⟨gb189, 1, none⟩ = some (.slice none 0 0) := (blk_cell BK189.out 1).trans rfl; have hfz96_0 := blk_frozen BK189.out 0; have hfz96_1 := blk_frozen BK189.out 1; obtain ⟨Ao97, co97, eo97⟩ := Kd.V_slice HO187.out; subst eo97; have hcz98_0 : w94.cell? ⟨gb146, 0, none⟩ = some (.int .u8 ((1 + (Int.tmod a0 3)) % 256)) := (blk_cell BK146.out 0).trans rfl; have hcz98_1 : w94.cell? ⟨gb146, 1, none⟩ = some (.slice Ao38 x147001_2.length co38) := (blk_cell BK146.out 1).trans rfl; have hfz98_0 := blk_frozen BK146.out 0; have hfz98_1 := blk_frozen BK146.out 1) | ((with_reducible refine gate_callee (f := 16) rfl ?_); refine goesL_ (some 99) rfl rfl Try.func16 (by kernel_rfl) rfl #[.agg #[.int .u8 ((1 + (Int.tmod a0 3)) % 256), .slice Ao38 x147001_2.length co38]] rfl (by (try simp only [List.map_toArray, List.map_cons, List.map_nil]); first | done | rfl | (simp only [List.length_drop, List.length_take]; rfl)) ?_; (with_reducible refine (disk_Set_Right.calls kj63 ((1 + (Int.tmod a0 3)) % 256) _ _ x147001_2 true _ ?side1 ?side2 A74.out).mono ?_); (case side1 => refine (Kd.N_reads' (e := 22) (base := w.heap.size) (ok := fun k_ => ((some k_ ≠ (.slice Ao92 t155.length co92 : Value).ownBlock ∧ k_ ≠ gb146) ∧ k_ ≠ gb189)) (n := x147001_2.length) (c := co38) ?_).2.2; exact (by (with_reducible repeat (first | apply Kd.N_alloc | apply Kd.N_drewN | apply Kd.N_drew)); exact (Kd.N_mono (Kd.N_far (p := ⟨gb189, 1, none⟩) (Kd.N_far (p := ⟨gb189, 0, none⟩) (Kd.N_mono HO_147001.out (fun k_ hk => (⟨hk, hk.2⟩ : _ ∧ k_ ≠ gb189))) (fun _ hk => hk.2) (.int .u8 t184)) (fun _ hk => hk.2) (.slice Ao97 t185.length co97)) (fun _ h_ => h_.1)))); (case side2 => exact (Kd.N_reads' HO_147001.out).2.1); rintro e w99 ⟨rfl, hb⟩; refine ⟨_, rfl, ?_⟩; have n0_ := Aside0.mk (Kd.R_below (by (with_reducible repeat (first | apply Kd.R_alloc | apply Kd.R_drewN | apply Kd.R_drew)); exact (Kd.R_mono (Kd.R_far (p := ⟨gb189, 1, none⟩) (Kd.R_far (p := ⟨gb189, 0, none⟩) (Kd.R_types HO_15.out BK189.out (by decide)) (fun _ hk => hk.2) (.int .u8 t184)) (fun _ hk => hk.2) (.slice Ao97 t185.length co97)) (fun _ h_ => h_.1))) hb); have n1_ := Aside0.mk (Kd.V_below (by (with_reducible repeat (first | apply Kd.V_alloc | apply Kd.V_drewN | apply Kd.V_drew)); exact (Kd.V_mono (Kd.V_far (p := ⟨gb189, 1, none⟩) (Kd.V_far (p := ⟨gb189, 0, none⟩) (Kd.V_mono HO_16.out (fun k_ hk => (⟨hk, hk.2⟩ : _ ∧ k_ ≠ gb189))) (fun _ hk => hk.2) (.int .u8 t184)) (fun _ hk => hk.2) (.slice Ao97 t185.length co97)) (fun _ h_ => h_.1))) hb); have n2_ := Aside0.mk (Kd.N_below (by (with_reducible repeat (first | apply Kd.N_alloc | apply Kd.N_drewN | apply Kd.N_drew)); exact (Kd.N_mono (Kd.N_far (p := ⟨gb189, 1, none⟩) (Kd.N_far (p := ⟨gb189, 0, none⟩) (Kd.N_mono HO_147001.out (fun k_ hk => (⟨hk, hk.2⟩ : _ ∧ k_ ≠ gb189))) (fun _ hk => hk.2) (.int .u8 t184)) (fun _ hk => hk.2) (.slice Ao97 t185.length co97)) (fun _ h_ => h_.1))) hb); have n3_ := Aside0.mk (Kd.V_below (by (with_reducible repeat (first | apply Kd.V_alloc | apply Kd.V_drewN | apply Kd.V_drew)); exact (Kd.V_mono (Kd.V_far (p := ⟨gb189, 1, none⟩) (Kd.V_far (p := ⟨gb189, 0, none⟩) (Kd.V_mono HO187.out (fun k_ hk => (⟨hk, hk.2⟩ : _ ∧ k_ ≠ gb189))) (fun _ hk => hk.2) (.int .u8 t184)) (fun _ hk => hk.2) (.slice Ao97 t185.length co97)) (fun _ h_ => h_.1))) hb); have n4_ := Aside0.mk (blk_below (g := gb146) (o := .cells #[.int .u8 ((1 + (Int.tmod a0 3)) % 256), .slice Ao38 x147001_2.length co38] 30 (0, 0)) (by (with_reducible repeat (first | refine blk_drewN ?_ _ | refine blk_drew ?_ | refine blk_alloc ?_ _)); refine blk_far ?_ NB146_189.out _; (with_reducible repeat (first | refine blk_drewN ?_ _ | refine blk_drew ?_ | refine blk_alloc ?_ _)); refine blk_far ?_ NB146_189.out _; (with_reducible repeat (first | refine blk_drewN ?_ _ | refine blk_drew ?_ | refine blk_alloc ?_ _)); exact BK146.out) hb); have n5_ := Aside0.mk (blk_below (g := gb189) (o := .cells #[.int .u8 t184, .slice Ao97 t185.length co97] 30 (0, 0)) (by (with_reducible repeat (first | refine blk_drewN ?_ _ | refine blk_drew ?_ | refine blk_alloc ?_ _)); refine blk_put (cs := #[.int .u8 t184, .slice none 0 0]) ?_ 1 _ rfl; (with_reducible repeat (first | refine blk_drewN ?_ _ | refine blk_drew ?_ | refine blk_alloc ?_ _)); refine blk_put (cs := #[.int .u8 0, .slice none 0 0]) ?_ 0 _ rfl; (with_reducible repeat (first | refine blk_drewN ?_ _ | refine blk_drew ?_ | refine blk_alloc ?_ _)); exact BK189.out) hb); have n6_ := Aside0.mk (below_step (by repeat (first | (with_reducible first | exact HB.out | apply below_alloc | apply pw_below_drewN | apply below_drew1 | refine below_set ?_ GE146.out | refine below_set ?_ GE189.out) | exact HB.out)) hb); clear HO_15; clear HO_16; clear HO_147001; clear HO187; clear BK146; clear BK189; clear HB; have HO_15 := n0_; have HO_16 := n1_; have HO_147001 := n2_; have HO187 := n3_; have BK146 := n4_; have BK189 := n5_; have HB := n6_; clear n0_ n1_ n2_ n3_ n4_ n5_ n6_; (try clear hb); (try clear hb2); (try clear hk); (try clear hi); obtain ⟨Ao100, co100, eo100⟩ := Kd.V_slice HO_16.out; subst eo100) | (go_at_call 14; (with_reducible refine (kotatsuref01_Same.calls kj63 _ _ t155 _ _ x16_35 true _ ?side1 ?side2 ?side3 ?side4 A76.out).mono ?_); (case side1 => repeat (first | exact (Kd.R_reads' HO_15.out).2.2 | (with_reducible refine Kd.C_alloc ?_ _) | (with_reducible refine Kd.C_drewN ?_ _) | (with_reducible refine Kd.C_drew ?_))); (case side2 => exact (Kd.R_reads' HO_15.out).2.1); (case side3 => repeat (first | exact (Kd.V_reads' HO_16.out).2.2 | (with_reducible refine Kd.C_alloc ?_ _) | (with_reducible refine Kd.C_drewN ?_ _) | (with_reducible refine Kd.C_drew ?_))); (case side4 => exact (Kd.V_reads' HO_16.out).2.1); rintro e w' ⟨rfl, ⟨nd, rfl⟩⟩))
               go_ret
               exact ⟨by first | rfl | (simp [errW_none, errW_some] <;> rfl) | (simp [*, errW_none, errW_some] <;> rfl), by repeat (first | (with_reducible first | exact HB.out | apply below_alloc | apply pw_below_drewN | apply below_drew1 | refine below_set ?_ GE146.out | refine below_set ?_ GE189.out) | exact HB.out)⟩
             ·replace c77 := Bool.eq_false_iff.mpr c77
              subst c77
              have H1 : (some false) = some r := by rw [if_neg (show ¬ (false = true) by decide)] at H; exact H
              clear H
              have H := H1
              clear H1
              obtain rfl := Option.some.inj H
              obtain ⟨Ao101, co101, eo101⟩ := Kd.R_slice HO_15.out
              subst eo101
              go_wp2_with (first | ((with_reducible refine gate_callee (f := 12) rfl ?_); refine goesL_ (some 95) rfl rfl Try.func12 (by kernel_rfl) rfl #[.slice Ao101 t155.length co101] rfl (by (try simp only [List.map_toArray, List.map_cons, List.map_nil]); first | done | rfl | (simp only [List.length_drop, List.length_take]; rfl)) ?_; (with_reducible refine (disk_Parse.calls kj63 _ _ t155 t184 t185 t188 _ ?side1 ?side2 A73.out).mono ?_); (case side1 => repeat (first | exact (Kd.R_reads' HO_15.out).2.2 | (with_reducible refine Kd.C_alloc ?_ _) | (with_reducible refine Kd.C_drewN ?_ _) | (with_reducible refine Kd.C_drew ?_))); (case side2 => exact (Kd.R_reads' HO_15.out).2.1); rintro e w102 ⟨v186, rfl, ho0, hb⟩; refine ⟨_, rfl, ?_⟩; have n0_ := Aside0.mk (Kd.R_below (by (with_reducible repeat (first | apply Kd.R_alloc | apply Kd.R_drewN | apply Kd.R_drew)); exact HO_15.out) hb); have n1_ := Aside0.mk (Kd.V_below (by (with_reducible repeat (first | apply Kd.V_alloc | apply Kd.V_drewN | apply Kd.V_drew)); exact HO_16.out) hb); have n2_ := Aside0.mk (Kd.N_below (by (with_reducible repeat (first | apply Kd.N_alloc | apply Kd.N_drewN | apply Kd.N_drew)); exact HO_147001.out) hb); have n3_ := Aside0.mk (Kd.V_lower (Kd.V_mono (ok' := fun k_ => some k_ ≠ (.slice Ao101 t155.length co101 : Value).ownBlock ∧ some k_ ≠ (.slice Ao38 x147001_2.length co38 : Value).ownBlock ∧ k_ ≠ gb146) ho0 (fun k_ hk_ => ⟨(Kd.fresh' (Kd.R_lt (by (with_reducible repeat (first | apply Kd.R_alloc | apply Kd.R_drewN | apply Kd.R_drew)); exact HO_15.out)) k_ hk_), (Kd.fresh' (Kd.N_lt (by (with_reducible repeat (first | apply Kd.N_alloc | apply Kd.N_drewN | apply Kd.N_drew)); exact HO_147001.out)) k_ hk_), (Kd.freshB (g := gb146) (o := .cells #[.int .u8 ((1 + (Int.tmod a0 3)) % 256), .slice Ao38 x147001_2.length co38] 30 (0, 0)) (by (with_reducible repeat (first | refine blk_drewN ?_ _ | refine blk_drew ?_ | refine blk_alloc ?_ _)); exact BK146.out) k_ hk_)⟩)) (below_size (by repeat (first | (with_reducible first | exact HB.out | apply below_alloc | apply pw_below_drewN | apply below_drew1 | refine below_set ?_ GE146.out) | exact HB.out)))); have n4_ := Aside0.mk (blk_below (g := gb146) (o := .cells #[.int .u8 ((1 + (Int.tmod a0 3)) % 256), .slice Ao38 x147001_2.length co38] 30 (0, 0)) (by (with_reducible repeat (first | refine blk_drewN ?_ _ | refine blk_drew ?_ | refine blk_alloc ?_ _)); exact BK146.out) hb); have n5_ := Aside0.mk (below_step (by repeat (first | (with_reducible first | exact HB.out | apply below_alloc | apply pw_below_drewN | apply below_drew1 | refine below_set ?_ GE146.out) | exact HB.out)) hb); clear HO_15; clear HO_16; clear HO_147001; clear BK146; clear HB; have HO_15 := n0_; have HO_16 := n1_; have HO_147001 := n2_; have HO187 := n3_; have BK146 := n4_; have HB := n5_; clear n0_ n1_ n2_ n3_ n4_ n5_; (try clear hb); (try clear hb2); (try clear hk); (try clear hi); (try clear ho0)) | ((with_reducible refine gate_dst (N := 17) rfl ?_); refine box_event ?hg (N := 17) ?hd (cs := #[.int .u8 0, .slice none 0 0]) (t := 30) ?hr ?_; (case hd => rfl); (case hg => rfl); (case hr => first | (go_simp; done) | (go_simp; rfl)); intro gb189 hg w103 hbox hb; have n0_ := Aside0.mk (Kd.R_below (by (with_reducible repeat (first | apply Kd.R_alloc | apply Kd.R_drewN | apply Kd.R_drew)); exact HO_15.out) hb); have n1_ := Aside0.mk (Kd.V_below (Kd.V_elderB (by (with_reducible repeat (first | apply Kd.V_alloc | apply Kd.V_drewN | apply Kd.V_drew)); exact HO_16.out) gb189 (Nat.le_of_eq hg.symm)) hb); have n2_ := Aside0.mk (Kd.N_below (Kd.N_elderB (by (with_reducible repeat (first | apply Kd.N_alloc | apply Kd.N_drewN | apply Kd.N_drew)); exact HO_147001.out) gb189 (Nat.le_of_eq hg.symm)) hb); have n3_ := Aside0.mk (Kd.V_below (Kd.V_elderB (by (with_reducible repeat (first | apply Kd.V_alloc | apply Kd.V_drewN | apply Kd.V_drew)); exact HO187.out) gb189 (Nat.le_of_eq hg.symm)) hb); have n4_ := Aside0.mk (blk_below (g := gb146) (o := .cells #[.int .u8 ((1 + (Int.tmod a0 3)) % 256), .slice Ao38 x147001_2.length co38] 30 (0, 0)) (by (with_reducible repeat (first | refine blk_drewN ?_ _ | refine blk_drew ?_ | refine blk_alloc ?_ _)); exact BK146.out) hb); have n5_ := Aside0.mk (below_step (by repeat (first | (with_reducible first | exact HB.out | apply below_alloc | apply pw_below_drewN | apply below_drew1 | refine below_set ?_ GE146.out) | exact HB.out)) hb); have n6_ := Aside0.mk (hbox); have n7_ := Aside0.mk ((by rw [hg]; exact (below_size (by repeat (first | (with_reducible first | exact HB.out | apply below_alloc | apply pw_below_drewN | apply below_drew1 | refine below_set ?_ GE146.out) | exact HB.out))) : w.heap.size ≤ gb189)); have n8_ := Aside0.mk ((by rw [hg]; exact (below_size (by repeat (first | (with_reducible first | exact HB.out | apply below_alloc | apply pw_below_drewN | apply below_drew1 | refine below_set ?_ GE146.out) | exact HB.out))) : w.heap.size ≤ gb189)); have n9_ := Aside0.mk ((by rw [hg]; exact Nat.ne_of_lt (blk_lt (g := gb146) (o := .cells #[.int .u8 ((1 + (Int.tmod a0 3)) % 256), .slice Ao38 x147001_2.length co38] 30 (0, 0)) (by (with_reducible repeat (first | refine blk_drewN ?_ _ | refine blk_drew ?_ | refine blk_alloc ?_ _)); exact BK146.out)) : gb146 ≠ gb189)); have n10_ := Aside0.mk ((by rw [hg]; exact Nat.ne_of_gt (blk_lt (g := gb146) (o := .cells #[.int .u8 ((1 + (Int.tmod a0 3)) % 256), .slice Ao38 x147001_2.length co38] 30 (0, 0)) (by (with_reducible repeat (first | refine blk_drewN ?_ _ | refine blk_drew ?_ | refine blk_alloc ?_ _)); exact BK146.out)) : gb189 ≠ gb146)); clear HO_15; clear HO_16; clear HO_147001; clear HO187; clear BK146; clear HB; have HO_15 := n0_; have HO_16 := n1_; have HO_147001 := n2_; have HO187 := n3_; have BK146 := n4_; have HB := n5_; have BK189 := n6_; have GW189 := n7_; have GE189 := n8_; have NB146_189 := n9_; have NB189_146 := n10_; clear n0_ n1_ n2_ n3_ n4_ n5_ n6_ n7_ n8_ n9_ n10_; clear hb hbox hg; have hnb104 := NB189_146.out; have hnc104 := NB146_189.out; have hcz105_0 : w103.cell? ⟨gb189, 0, none⟩ = some (.int .u8 0) := (blk_cell BK189.out 0).trans rfl; have hcz105_1 : w103.cell? ⟨gb189, 1, none⟩ = some (.slice none 0 0) := (blk_cell BK189.out 1).trans rfl; have hfz105_0 := blk_frozen BK189.out 0; have hfz105_1 := blk_frozen BK189.out 1; obtain ⟨Ao106, co106, eo106⟩ := Kd.V_slice HO187.out; subst eo106; have hcz107_0 : w103.cell? ⟨gb146, 0, none⟩ = some (.int .u8 ((1 + (Int.tmod a0 3)) % 256)) := (blk_cell BK146.out 0).trans rfl; have hcz107_1 : w103.cell? ⟨gb146, 1, none⟩ = some (.slice Ao38 x147001_2.length co38) := (blk_cell BK146.out 1).trans rfl; have hfz107_0 := blk_frozen BK146.out 0; have hfz107_1 := blk_frozen BK146.out 1) | ((with_reducible refine gate_callee (f := 16) rfl ?_); refine goesL_ (some 99) rfl rfl Try.func16 (by kernel_rfl) rfl #[.agg #[.int .u8 ((1 + (Int.tmod a0 3)) % 256), .slice Ao38 x147001_2.length co38]] rfl (by (try simp only [List.map_toArray, List.map_cons, List.map_nil]); first | done | rfl | (simp only [List.length_drop, List.length_take]; rfl)) ?_; (with_reducible refine (disk_Set_Right.calls kj63 ((1 + (Int.tmod a0 3)) % 256) _ _ x147001_2 true _ ?side1 ?side2 A74.out).mono ?_); (case side1 => refine (Kd.N_reads' (e := 22) (base := w.heap.size) (ok := fun k_ => ((some k_ ≠ (.slice Ao101 t155.length co101 : Value).ownBlock ∧ k_ ≠ gb146) ∧ k_ ≠ gb189)) (n := x147001_2.length) (c := co38) ?_).2.2; exact (by (with_reducible repeat (first | apply Kd.N_alloc | apply Kd.N_drewN | apply Kd.N_drew)); exact (Kd.N_mono (Kd.N_far (p := ⟨gb189, 1, none⟩) (Kd.N_far (p := ⟨gb189, 0, none⟩) (Kd.N_mono HO_147001.out (fun k_ hk => (⟨hk, hk.2⟩ : _ ∧ k_ ≠ gb189))) (fun _ hk => hk.2) (.int .u8 t184)) (fun _ hk => hk.2) (.slice Ao106 t185.length co106)) (fun _ h_ => h_.1)))); (case side2 => exact (Kd.N_reads' HO_147001.out).2.1); rintro e w108 ⟨rfl, hb⟩; refine ⟨_, rfl, ?_⟩; have n0_ := Aside0.mk (Kd.R_below (by (with_reducible repeat (first | apply Kd.R_alloc | apply Kd.R_drewN | apply Kd.R_drew)); exact (Kd.R_mono (Kd.R_far (p := ⟨gb189, 1, none⟩) (Kd.R_far (p := ⟨gb189, 0, none⟩) (Kd.R_types HO_15.out BK189.out (by decide)) (fun _ hk => hk.2) (.int .u8 t184)) (fun _ hk => hk.2) (.slice Ao106 t185.length co106)) (fun _ h_ => h_.1))) hb); have n1_ := Aside0.mk (Kd.V_below (by (with_reducible repeat (first | apply Kd.V_alloc | apply Kd.V_drewN | apply Kd.V_drew)); exact (Kd.V_mono (Kd.V_far (p := ⟨gb189, 1, none⟩) (Kd.V_far (p := ⟨gb189, 0, none⟩) (Kd.V_mono HO_16.out (fun k_ hk => (⟨hk, hk.2⟩ : _ ∧ k_ ≠ gb189))) (fun _ hk => hk.2) (.int .u8 t184)) (fun _ hk => hk.2) (.slice Ao106 t185.length co106)) (fun _ h_ => h_.1))) hb); have n2_ := Aside0.mk (Kd.N_below (by (with_reducible repeat (first | apply Kd.N_alloc | apply Kd.N_drewN | apply Kd.N_drew)); exact (Kd.N_mono (Kd.N_far (p := ⟨gb189, 1, none⟩) (Kd.N_far (p := ⟨gb189, 0, none⟩) (Kd.N_mono HO_147001.out (fun k_ hk => (⟨hk, hk.2⟩ : _ ∧ k_ ≠ gb189))) (fun _ hk => hk.2) (.int .u8 t184)) (fun _ hk => hk.2) (.slice Ao106 t185.length co106)) (fun _ h_ => h_.1))) hb); have n3_ := Aside0.mk (Kd.V_below (by (with_reducible repeat (first | apply Kd.V_alloc | apply Kd.V_drewN | apply Kd.V_drew)); exact (Kd.V_mono (Kd.V_far (p := ⟨gb189, 1, none⟩) (Kd.V_far (p := ⟨gb189, 0, none⟩) (Kd.V_mono HO187.out (fun k_ hk => (⟨hk, hk.2⟩ : _ ∧ k_ ≠ gb189))) (fun _ hk => hk.2) (.int .u8 t184)) (fun _ hk => hk.2) (.slice Ao106 t185.length co106)) (fun _ h_ => h_.1))) hb); have n4_ := Aside0.mk (blk_below (g := gb146) (o := .cells #[.int .u8 ((1 + (Int.tmod a0 3)) % 256), .slice Ao38 x147001_2.length co38] 30 (0, 0)) (by (with_reducible repeat (first | refine blk_drewN ?_ _ | refine blk_drew ?_ | refine blk_alloc ?_ _)); refine blk_far ?_ NB146_189.out _; (with_reducible repeat (first | refine blk_drewN ?_ _ | refine blk_drew ?_ | refine blk_alloc ?_ _)); refine blk_far ?_ NB146_189.out _; (with_reducible repeat (first | refine blk_drewN ?_ _ | refine blk_drew ?_ | refine blk_alloc ?_ _)); exact BK146.out) hb); have n5_ := Aside0.mk (blk_below (g := gb189) (o := .cells #[.int .u8 t184, .slice Ao106 t185.length co106] 30 (0, 0)) (by (with_reducible repeat (first | refine blk_drewN ?_ _ | refine blk_drew ?_ | refine blk_alloc ?_ _)); refine blk_put (cs := #[.int .u8 t184, .slice none 0 0]) ?_ 1 _ rfl; (with_reducible repeat (first | refine blk_drewN ?_ _ | refine blk_drew ?_ | refine blk_alloc ?_ _)); refine blk_put (cs := #[.int .u8 0, .slice none 0 0]) ?_ 0 _ rfl; (with_reducible repeat (first | refine blk_drewN ?_ _ | refine blk_drew ?_ | refine blk_alloc ?_ _)); exact BK189.out) hb); have n6_ := Aside0.mk (below_step (by repeat (first | (with_reducible first | exact HB.out | apply below_alloc | apply pw_below_drewN | apply below_drew1 | refine below_set ?_ GE146.out | refine below_set ?_ GE189.out) | exact HB.out)) hb); clear HO_15; clear HO_16; clear HO_147001; clear HO187; clear BK146; clear BK189; clear HB; have HO_15 := n0_; have HO_16 := n1_; have HO_147001 := n2_; have HO187 := n3_; have BK146 := n4_; have BK189 := n5_; have HB := n6_; clear n0_ n1_ n2_ n3_ n4_ n5_ n6_; (try clear hb); (try clear hb2); (try clear hk); (try clear hi); obtain ⟨Ao109, co109, eo109⟩ := Kd.V_slice HO_16.out; subst eo109) | (go_at_call 14; (with_reducible refine (kotatsuref01_Same.calls kj63 _ _ t155 _ _ x16_35 false _ ?side1 ?side2 ?side3 ?side4 A76.out).mono ?_); (case side1 => repeat (first | exact (Kd.R_reads' HO_15.out).2.2 | (with_reducible refine Kd.C_alloc ?_ _) | (with_reducible refine Kd.C_drewN ?_ _) | (with_reducible refine Kd.C_drew ?_))); (case side2 => exact (Kd.R_reads' HO_15.out).2.1); (case side3 => repeat (first | exact (Kd.V_reads' HO_16.out).2.2 | (with_reducible refine Kd.C_alloc ?_ _) | (with_reducible refine Kd.C_drewN ?_ _) | (with_reducible refine Kd.C_drew ?_))); (case side4 => exact (Kd.V_reads' HO_16.out).2.1); rintro e w' ⟨rfl, ⟨nd, rfl⟩⟩))
              go_ret
              exact ⟨by first | rfl | (simp [errW_none, errW_some] <;> rfl) | (simp [*, errW_none, errW_some] <;> rfl), by repeat (first | (with_reducible first | exact HB.out | apply below_alloc | apply pw_below_drewN | apply below_drew1 | refine below_set ?_ GE146.out | refine below_set ?_ GE189.out) | exact HB.out)⟩
            ·replace c75 := Bool.eq_false_iff.mpr c75
             subst c75
             have H1 : (some false) = some r := by rw [if_neg (show ¬ (false = true) by decide)] at H; exact H
             clear H
             have H := H1
             clear H1
             obtain rfl := Option.some.inj H
             obtain ⟨Ao110, co110, eo110⟩ := Kd.R_slice HO_15.out
             subst eo110
             go_wp2_with (first | ((with_reducible refine gate_callee (f := 12) rfl ?_); refine goesL_ (some 95) rfl rfl Try.func12 (by kernel_rfl) rfl #[.slice Ao110 t155.length co110] rfl (by (try simp only [List.map_toArray, List.map_cons, List.map_nil]); first | done | rfl | (simp only [List.length_drop, List.length_take]; rfl)) ?_; (with_reducible refine (disk_Parse.calls kj63 _ _ t155 t184 t185 t188 _ ?side1 ?side2 A73.out).mono ?_); (case side1 => repeat (first | exact (Kd.R_reads' HO_15.out).2.2 | (with_reducible refine Kd.C_alloc ?_ _) | (with_reducible refine Kd.C_drewN ?_ _) | (with_reducible refine Kd.C_drew ?_))); (case side2 => exact (Kd.R_reads' HO_15.out).2.1); rintro e w111 ⟨v186, rfl, ho0, hb⟩; refine ⟨_, rfl, ?_⟩; have n0_ := Aside0.mk (Kd.R_below (by (with_reducible repeat (first | apply Kd.R_alloc | apply Kd.R_drewN | apply Kd.R_drew)); exact HO_15.out) hb); have n1_ := Aside0.mk (Kd.V_below (by (with_reducible repeat (first | apply Kd.V_alloc | apply Kd.V_drewN | apply Kd.V_drew)); exact HO_16.out) hb); have n2_ := Aside0.mk (Kd.N_below (by (with_reducible repeat (first | apply Kd.N_alloc | apply Kd.N_drewN | apply Kd.N_drew)); exact HO_147001.out) hb); have n3_ := Aside0.mk (Kd.V_lower (Kd.V_mono (ok' := fun k_ => some k_ ≠ (.slice Ao110 t155.length co110 : Value).ownBlock ∧ some k_ ≠ (.slice Ao38 x147001_2.length co38 : Value).ownBlock ∧ k_ ≠ gb146) ho0 (fun k_ hk_ => ⟨(Kd.fresh' (Kd.R_lt (by (with_reducible repeat (first | apply Kd.R_alloc | apply Kd.R_drewN | apply Kd.R_drew)); exact HO_15.out)) k_ hk_), (Kd.fresh' (Kd.N_lt (by (with_reducible repeat (first | apply Kd.N_alloc | apply Kd.N_drewN | apply Kd.N_drew)); exact HO_147001.out)) k_ hk_), (Kd.freshB (g := gb146) (o := .cells #[.int .u8 ((1 + (Int.tmod a0 3)) % 256), .slice Ao38 x147001_2.length co38] 30 (0, 0)) (by (with_reducible repeat (first | refine blk_drewN ?_ _ | refine blk_drew ?_ | refine blk_alloc ?_ _)); exact BK146.out) k_ hk_)⟩)) (below_size (by repeat (first | (with_reducible first | exact HB.out | apply below_alloc | apply pw_below_drewN | apply below_drew1 | refine below_set ?_ GE146.out) | exact HB.out)))); have n4_ := Aside0.mk (blk_below (g := gb146) (o := .cells #[.int .u8 ((1 + (Int.tmod a0 3)) % 256), .slice Ao38 x147001_2.length co38] 30 (0, 0)) (by (with_reducible repeat (first | refine blk_drewN ?_ _ | refine blk_drew ?_ | refine blk_alloc ?_ _)); exact BK146.out) hb); have n5_ := Aside0.mk (below_step (by repeat (first | (with_reducible first | exact HB.out | apply below_alloc | apply pw_below_drewN | apply below_drew1 | refine below_set ?_ GE146.out) | exact HB.out)) hb); clear HO_15; clear HO_16; clear HO_147001; clear BK146; clear HB; have HO_15 := n0_; have HO_16 := n1_; have HO_147001 := n2_; have HO187 := n3_; have BK146 := n4_; have HB := n5_; clear n0_ n1_ n2_ n3_ n4_ n5_; (try clear hb); (try clear hb2); (try clear hk); (try clear hi); (try clear ho0)) | ((with_reducible refine gate_dst (N := 17) rfl ?_); refine box_event ?hg (N := 17) ?hd (cs := #[.int .u8 0, .slice none 0 0]) (t := 30) ?hr ?_; (case hd => rfl); (case hg => rfl); (case hr => first | (go_simp; done) | (go_simp; rfl)); intro gb189 hg w112 hbox hb; have n0_ := Aside0.mk (Kd.R_below (by (with_reducible repeat (first | apply Kd.R_alloc | apply Kd.R_drewN | apply Kd.R_drew)); exact HO_15.out) hb); have n1_ := Aside0.mk (Kd.V_below (Kd.V_elderB (by (with_reducible repeat (first | apply Kd.V_alloc | apply Kd.V_drewN | apply Kd.V_drew)); exact HO_16.out) gb189 (Nat.le_of_eq hg.symm)) hb); have n2_ := Aside0.mk (Kd.N_below (Kd.N_elderB (by (with_reducible repeat (first | apply Kd.N_alloc | apply Kd.N_drewN | apply Kd.N_drew)); exact HO_147001.out) gb189 (Nat.le_of_eq hg.symm)) hb); have n3_ := Aside0.mk (Kd.V_below (Kd.V_elderB (by (with_reducible repeat (first | apply Kd.V_alloc | apply Kd.V_drewN | apply Kd.V_drew)); exact HO187.out) gb189 (Nat.le_of_eq hg.symm)) hb); have n4_ := Aside0.mk (blk_below (g := gb146) (o := .cells #[.int .u8 ((1 + (Int.tmod a0 3)) % 256), .slice Ao38 x147001_2.length co38] 30 (0, 0)) (by (with_reducible repeat (first | refine blk_drewN ?_ _ | refine blk_drew ?_ | refine blk_alloc ?_ _)); exact BK146.out) hb); have n5_ := Aside0.mk (below_step (by repeat (first | (with_reducible first | exact HB.out | apply below_alloc | apply pw_below_drewN | apply below_drew1 | refine below_set ?_ GE146.out) | exact HB.out)) hb); have n6_ := Aside0.mk (hbox); have n7_ := Aside0.mk ((by rw [hg]; exact (below_size (by repeat (first | (with_reducible first | exact HB.out | apply below_alloc | apply pw_below_drewN | apply below_drew1 | refine below_set ?_ GE146.out) | exact HB.out))) : w.heap.size ≤ gb189)); have n8_ := Aside0.mk ((by rw [hg]; exact (below_size (by repeat (first | (with_reducible first | exact HB.out | apply below_alloc | apply pw_below_drewN | apply below_drew1 | refine below_set ?_ GE146.out) | exact HB.out))) : w.heap.size ≤ gb189)); have n9_ := Aside0.mk ((by rw [hg]; exact Nat.ne_of_lt (blk_lt (g := gb146) (o := .cells #[.int .u8 ((1 + (Int.tmod a0 3)) % 256), .slice Ao38 x147001_2.length co38] 30 (0, 0)) (by (with_reducible repeat (first | refine blk_drewN ?_ _ | refine blk_drew ?_ | refine blk_alloc ?_ _)); exact BK146.out)) : gb146 ≠ gb189)); have n10_ := Aside0.mk ((by rw [hg]; exact Nat.ne_of_gt (blk_lt (g := gb146) (o := .cells #[.int .u8 ((1 + (Int.tmod a0 3)) % 256), .slice Ao38 x147001_2.length co38] 30 (0, 0)) (by (with_reducible repeat (first | refine blk_drewN ?_ _ | refine blk_drew ?_ | refine blk_alloc ?_ _)); exact BK146.out)) : gb189 ≠ gb146)); clear HO_15; clear HO_16; clear HO_147001; clear HO187; clear BK146; clear HB; have HO_15 := n0_; have HO_16 := n1_; have HO_147001 := n2_; have HO187 := n3_; have BK146 := n4_; have HB := n5_; have BK189 := n6_; have GW189 := n7_; have GE189 := n8_; have NB146_189 := n9_; have NB189_146 := n10_; clear n0_ n1_ n2_ n3_ n4_ n5_ n6_ n7_ n8_ n9_ n10_; clear hb hbox hg; have hnb113 := NB189_146.out; have hnc113 := NB146_189.out; have hcz114_0 : w112.cell? ⟨gb189, 0, none⟩ = some (.int .u8 0) := (blk_cell BK189.out 0).trans rfl; have hcz114_1 : w112.cell? ⟨gb189, 1, none⟩ = some (.slice none 0 0) := (blk_cell BK189.out 1).trans rfl; have hfz114_0 := blk_frozen BK189.out 0; have hfz114_1 := blk_frozen BK189.out 1; obtain ⟨Ao115, co115, eo115⟩ := Kd.V_slice HO187.out; subst eo115; have hcz116_0 : w112.cell? ⟨gb146, 0, none⟩ = some (.int .u8 ((1 + (Int.tmod a0 3)) % 256)) := (blk_cell BK146.out 0).trans rfl; have hcz116_1 : w112.cell? ⟨gb146, 1, none⟩ = some (.slice Ao38 x147001_2.length co38) := (blk_cell BK146.out 1).trans rfl; have hfz116_0 := blk_frozen BK146.out 0; have hfz116_1 := blk_frozen BK146.out 1) | ((with_reducible refine gate_callee (f := 16) rfl ?_); refine goesL_ (some 99) rfl rfl Try.func16 (by kernel_rfl) rfl #[.agg #[.int .u8 ((1 + (Int.tmod a0 3)) % 256), .slice Ao38 x147001_2.length co38]] rfl (by (try simp only [List.map_toArray, List.map_cons, List.map_nil]); first | done | rfl | (simp only [List.length_drop, List.length_take]; rfl)) ?_; (with_reducible refine (disk_Set_Right.calls kj63 ((1 + (Int.tmod a0 3)) % 256) _ _ x147001_2 false _ ?side1 ?side2 A74.out).mono ?_); (case side1 => refine (Kd.N_reads' (e := 22) (base := w.heap.size) (ok := fun k_ => ((some k_ ≠ (.slice Ao110 t155.length co110 : Value).ownBlock ∧ k_ ≠ gb146) ∧ k_ ≠ gb189)) (n := x147001_2.length) (c := co38) ?_).2.2; exact (by (with_reducible repeat (first | apply Kd.N_alloc | apply Kd.N_drewN | apply Kd.N_drew)); exact (Kd.N_mono (Kd.N_far (p := ⟨gb189, 1, none⟩) (Kd.N_far (p := ⟨gb189, 0, none⟩) (Kd.N_mono HO_147001.out (fun k_ hk => (⟨hk, hk.2⟩ : _ ∧ k_ ≠ gb189))) (fun _ hk => hk.2) (.int .u8 t184)) (fun _ hk => hk.2) (.slice Ao115 t185.length co115)) (fun _ h_ => h_.1)))); (case side2 => exact (Kd.N_reads' HO_147001.out).2.1); rintro e w117 ⟨rfl, hb⟩; refine ⟨_, rfl, ?_⟩; have n0_ := Aside0.mk (Kd.R_below (by (with_reducible repeat (first | apply Kd.R_alloc | apply Kd.R_drewN | apply Kd.R_drew)); exact (Kd.R_mono (Kd.R_far (p := ⟨gb189, 1, none⟩) (Kd.R_far (p := ⟨gb189, 0, none⟩) (Kd.R_types HO_15.out BK189.out (by decide)) (fun _ hk => hk.2) (.int .u8 t184)) (fun _ hk => hk.2) (.slice Ao115 t185.length co115)) (fun _ h_ => h_.1))) hb); have n1_ := Aside0.mk (Kd.V_below (by (with_reducible repeat (first | apply Kd.V_alloc | apply Kd.V_drewN | apply Kd.V_drew)); exact (Kd.V_mono (Kd.V_far (p := ⟨gb189, 1, none⟩) (Kd.V_far (p := ⟨gb189, 0, none⟩) (Kd.V_mono HO_16.out (fun k_ hk => (⟨hk, hk.2⟩ : _ ∧ k_ ≠ gb189))) (fun _ hk => hk.2) (.int .u8 t184)) (fun _ hk => hk.2) (.slice Ao115 t185.length co115)) (fun _ h_ => h_.1))) hb); have n2_ := Aside0.mk (Kd.N_below (by (with_reducible repeat (first | apply Kd.N_alloc | apply Kd.N_drewN | apply Kd.N_drew)); exact (Kd.N_mono (Kd.N_far (p := ⟨gb189, 1, none⟩) (Kd.N_far (p := ⟨gb189, 0, none⟩) (Kd.N_mono HO_147001.out (fun k_ hk => (⟨hk, hk.2⟩ : _ ∧ k_ ≠ gb189))) (fun _ hk => hk.2) (.int .u8 t184)) (fun _ hk => hk.2) (.slice Ao115 t185.length co115)) (fun _ h_ => h_.1))) hb); have n3_ := Aside0.mk (Kd.V_below (by (with_reducible repeat (first | apply Kd.V_alloc | apply Kd.V_drewN | apply Kd.V_drew)); exact (Kd.V_mono (Kd.V_far (p := ⟨gb189, 1, none⟩) (Kd.V_far (p := ⟨gb189, 0, none⟩) (Kd.V_mono HO187.out (fun k_ hk => (⟨hk, hk.2⟩ : _ ∧ k_ ≠ gb189))) (fun _ hk => hk.2) (.int .u8 t184)) (fun _ hk => hk.2) (.slice Ao115 t185.length co115)) (fun _ h_ => h_.1))) hb); have n4_ := Aside0.mk (blk_below (g := gb146) (o := .cells #[.int .u8 ((1 + (Int.tmod a0 3)) % 256), .slice Ao38 x147001_2.length co38] 30 (0, 0)) (by (with_reducible repeat (first | refine blk_drewN ?_ _ | refine blk_drew ?_ | refine blk_alloc ?_ _)); refine blk_far ?_ NB146_189.out _; (with_reducible repeat (first | refine blk_drewN ?_ _ | refine blk_drew ?_ | refine blk_alloc ?_ _)); refine blk_far ?_ NB146_189.out _; (with_reducible repeat (first | refine blk_drewN ?_ _ | refine blk_drew ?_ | refine blk_alloc ?_ _)); exact BK146.out) hb); have n5_ := Aside0.mk (blk_below (g := gb189) (o := .cells #[.int .u8 t184, .slice Ao115 t185.length co115] 30 (0, 0)) (by (with_reducible repeat (first | refine blk_drewN ?_ _ | refine blk_drew ?_ | refine blk_alloc ?_ _)); refine blk_put (cs := #[.int .u8 t184, .slice none 0 0]) ?_ 1 _ rfl; (with_reducible repeat (first | refine blk_drewN ?_ _ | refine blk_drew ?_ | refine blk_alloc ?_ _)); refine blk_put (cs := #[.int .u8 0, .slice none 0 0]) ?_ 0 _ rfl; (with_reducible repeat (first | refine blk_drewN ?_ _ | refine blk_drew ?_ | refine blk_alloc ?_ _)); exact BK189.out) hb); have n6_ := Aside0.mk (below_step (by repeat (first | (with_reducible first | exact HB.out | apply below_alloc | apply pw_below_drewN | apply below_drew1 | refine below_set ?_ GE146.out | refine below_set ?_ GE189.out) | exact HB.out)) hb); clear HO_15; clear HO_16; clear HO_147001; clear HO187; clear BK146; clear BK189; clear HB; have HO_15 := n0_; have HO_16 := n1_; have HO_147001 := n2_; have HO187 := n3_; have BK146 := n4_; have BK189 := n5_; have HB := n6_; clear n0_ n1_ n2_ n3_ n4_ n5_ n6_; (try clear hb); (try clear hb2); (try clear hk); (try clear hi)))
             go_ret
             exact ⟨by first | rfl | (simp [errW_none, errW_some] <;> rfl) | (simp [*, errW_none, errW_some] <;> rfl), by repeat (first | (with_reducible first | exact HB.out | apply below_alloc | apply pw_below_drewN | apply below_drew1 | refine below_set ?_ GE146.out | refine below_set ?_ GE189.out) | exact HB.out)⟩
 ·replace c6 := Bool.eq_false_iff.mpr c6
  subst c6
  have H1 : (some false) = some r := by rw [if_neg (show ¬ (false = true) by decide)] at H; exact H
  clear H
  have H := H1
  clear H1
  obtain rfl := Option.some.inj H
  go_enter Try.func4, Try.ntmps4
  go_wp2_with (first | ((with_reducible refine gate_callee (f := 9) rfl ?_); refine goesL_ (some 19) rfl rfl Try.func9 (by kernel_rfl) rfl #[] rfl (by (try simp only [List.map_toArray, List.map_cons, List.map_nil]); first | done | rfl | (simp only [List.length_drop, List.length_take]; rfl)) ?_; (with_reducible refine (kotatsulaw06_awake.calls k  false _ A5.out).mono ?_); rintro e w118 ⟨rfl, hb⟩; refine ⟨_, rfl, ?_⟩; have n0_ := Aside0.mk (below_step (by repeat (first | (with_reducible first | exact HB.out | apply below_alloc | apply pw_below_drewN | apply below_drew1) | exact HB.out)) hb); clear HB; have HB := n0_; clear n0_; (try clear hb); (try clear hb2); (try clear hk); (try clear hi)))
  go_ret
  exact ⟨by first | rfl | (simp [errW_none, errW_some] <;> rfl) | (simp [*, errW_none, errW_some] <;> rfl), by repeat (first | (with_reducible first | exact HB.out | apply below_alloc | apply pw_below_drewN | apply below_drew1) | exact HB.out)⟩

/-- THE ONE PURE STATEMENT of kotatsulaw06_DiskForms: yours. -/
def kotatsulaw06_DiskForms.Pure : Prop := ∀ (a0 : Int) (a1 : Int) (l2 : List Int) (a3 : Int), (Lit.int .u8 a0).wf = true → (Lit.int .u8 a1).wf = true → l2.length ≤ maxLen → l2.length * 4 ≤ 140737488351232 → (∀ x ∈ l2, (Lit.int .u32 x).wf = true) → (Lit.int .u8 a3).wf = true → ∃ k, kotatsulaw06_DiskForms.f k a0 a1 l2 a3 = some true
theorem kotatsulaw06_DiskForms.walk (P : kotatsulaw06_DiskForms.Pure) (a0 : Int) (a1 : Int) (a2 : Option Addr) (len2 cap2 : Nat) (z2 : List Int) (a3 : Int) (w : World) (w0 : (Lit.int .u8 a0).wf = true) (w1 : (Lit.int .u8 a1).wf = true) (w2 : (a2 = none ∧ len2 = 0 ∧ cap2 = 0 ∧ z2 = []) ∨ ∃ x, a2 = some x ∧ len2 ≤ cap2 ∧ cap2 ≤ maxLen ∧ z2.length = cap2 ∧ (∀ i, i < z2.length → w.cell? (x.add i) = some (.int .u32 (z2.getD i 0))) ∧ ∀ n ∈ z2, (Lit.int .u32 n).wf = true) (y2 : len2 * 4 ≤ 140737488351232) (w3 : (Lit.int .u8 a3).wf = true) :
  Calls Try.prog 4 #[.int .u8 a0, .int .u8 a1, .slice a2 len2 cap2, .int .u8 a3] w fun e w' => e = .returned (.bool true) ∧ Below w.heap.size w w' := by
 obtain ⟨l2, rfl, hr2, hm2, hw2, hc2⟩ := ReadsInt.ofRowC w2
 obtain ⟨k, h⟩ := P a0 a1 l2 a3 w0 w1 hm2 y2 hw2 w3
 refine (kotatsulaw06_DiskForms.calls k a0 a1 _ _ l2 a3 true w (Kd.C_of_reads (d := (0 : Int)) (h1 := fun _ => rfl) hr2) hc2 h).mono ?_
 rintro e w' ⟨rfl, hd⟩
 exact ⟨rfl, hd⟩

end Go.Proofs.Ythnfmoaiejaheaa.PDiskForms
