-- made by a program of this repo (wip/patch_print.py); not trusted: Lean checks it
import Derived.Test.YthnfmoaiejaheaaPDiskRefusesx0
import Derived.Test.YthnfmoaiejaheaaPDiskRefusesx1
-- squeezed
namespace Go.Proofs.Ythnfmoaiejaheaa.PDiskRefuses
open Go.RowKit Go.Proofs.YthnfmoaiejaheaaW.PrintWords Go.Proofs.YthnfmoaiejaheaaW.PrintLast Go.Proofs.YthnfmoaiejaheaaW.PrintMore
attribute [local go_sem] max2_int min2_int max_two min_two max_three min_three max_four min_four   -- for this text's walks alone
set_option linter.unusedVariables false
set_option linter.unusedSimpArgs false

/-! ### disk_cut: function 31, by hand -/
section
open Go.Shelf
attribute [local go_sem] Oper.semAt_some
def disk_cut.offs (len m : Nat) : List Nat := (List.range ((len + m - 1) / m)).map (· * m)
def disk_cut.piece (A : Option Addr) (len m i : Nat) : Value := .slice (A.map (·.add i)) (min m (len - i)) (min m (len - i))
theorem disk_cut.count {len m j : Nat} (hm : 0 < m) (h1 : len ≤ j * m) (h2 : j * m < len + m) : (len + m - 1) / m = j := by
 have e1 : (len + m - 1) / m < j + 1 := by
  rw [Nat.div_lt_iff_lt_mul hm, Nat.add_mul, Nat.one_mul]; omega
 have e2 : j ≤ (len + m - 1) / m := by
  rw [Nat.le_div_iff_mul_le hm]; omega
 omega
set_option maxRecDepth 100000 in
set_option maxHeartbeats 4000000 in
theorem disk_cut.chunk1 (F : Fence) (n : Nat) (hF : F.fn 58) (hro : F.round = none) (hn : 1 ≤ n) (l Bs Bn : Nat) (A : Option Addr) (len cap m : Nat) (hA : 0 < len → ∃ ad, A = some ad) (hm : 0 < m) (hm2 : m ≤ 1000000) (hlen : len ≤ 1099511627776) (hcap : len ≤ cap) (J Jx : List { i : Nat // i < len } → World → Prop)
  (hY : ∀ pre x W, J pre W → pre.length < len → YieldAt F (n - 1) Try.prog l #[disk_cut.piece A len m x.1] W fun e W' => (e = .returned (.bool true) ∧ J (pre ++ [x]) W' ∧ (W'.heap[Bs]? = W.heap[Bs]? ∧ W'.heap[Bn]? = W.heap[Bn]?)) ∨ (e = .returned (.bool false) ∧ Jx (pre ++ [x]) W'))
  (W : World) (hJ : AbidesFrom W.heap.size J) (hBs : Boxed W Bs 22 (.slice A len cap)) (hBn : Boxed W Bn 3 (.int .i64 m)) (h0 : J [] W) :
  CallsIn F n Try.prog 58 #[.func (.yield l) #[] #[], .pointer (some ⟨Bs, 0, none⟩), .pointer (some ⟨Bn, 0, none⟩)] W fun e W' => (∃ v, e = .returned v) ∧
   ((∃ ys, ys.map Subtype.val = disk_cut.offs len m ∧ J ys W') ∨ (∃ pre, True ∧ Jx pre W')) := by
 refine callsIn_of_wp Try.func58 rfl hF ?_ hro
 simp only [Try.ntmps58, List.size_toArray, List.length_cons, List.length_nil, Nat.reduceAdd, Nat.reduceSub, Array.replicate_succ, Array.replicate_zero, List.push_toArray, List.append_toArray, List.nil_append, List.cons_append]
 have hbs := hBs.cell
 have hbn := hBn.cell
 gi_wp2
 gi_loopw [4] (fun i wr => ∃ (j : Nat) (pre : List { i : Nat // i < len }), i = .int .i64 (j * m : Nat) ∧ j * m < len + m ∧ pre.map Subtype.val = (List.range j).map (· * m) ∧ J pre wr ∧ Boxed wr Bs 22 (.slice A len cap) ∧ Boxed wr Bn 3 (.int .i64 m))
  (fun i _ => len + m - (intOf i).toNat)
 case atStart => exact ⟨0, [], by simp, by omega, rfl, h0, hBs, hBn⟩
 case round =>
  obtain ⟨j, pre, rfl, hj, hpre, hJs, hBs, hBn⟩ := hrel
  have hbs := hBs.cell
  have hbn := hBn.cell
  generalize hi : j * m = i at *
  by_cases hlt : i < len
  ·have hpl : pre.length = j := by
    have := congrArg List.length hpre
    simpa using this
   have hjl : j < len := Nat.lt_of_le_of_lt (Nat.le_mul_of_pos_right j hm) (by omega)
   obtain ⟨ad, rfl⟩ := hA (by omega)
   have hJd : J pre wr.drew := hJ _ _ _ none hJs ⟨rfl, rfl, rfl, Nat.le_refl _, fun _ _ _ => rfl⟩ (fun r e => by cases e)
   obtain ⟨fn, tmps, assign, body, hy, hR⟩ := hY _ ⟨i, hlt⟩ wr.drew hJd (by omega)
   dsimp only [disk_cut.piece, Option.map_some] at hy
   have hmx : Try.prog.follows .mixedOrders = true := by kernel_rfl
   by_cases hmin : m ≤ len - i
   ·rw [Nat.min_eq_left hmin] at hy
    have q1 : decide ((m : Int) ≤ ((len - i : Nat) : Int)) = true := decide_eq_true (by omega)
    have q2 : ((i : Int) + (m : Int)).toNat - i = m := by omega
    gi_wp2
    gi_region_o
    gi_wp2
    all_goals (
     refine hR.mono ?_
     rintro e W3 (⟨rfl, hJ3, hk3, hk4⟩ | ⟨rfl, hJx3⟩)
     ·have hBs3 : Boxed W3 Bs 22 (.slice (some ad) len cap) := hk3.trans hBs
      have hBn3 : Boxed W3 Bn 3 (.int .i64 m) := hk4.trans hBn
      have hbn3 := hBn3.cell
      gi_wp2
      go_roundw
      case rel => exact ⟨j + 1, pre ++ [⟨i, hlt⟩], by rw [Nat.add_mul, Nat.one_mul, hi]; push_cast; rfl, by rw [Nat.add_mul, Nat.one_mul, hi]; omega, by rw [List.map_append, hpre, List.range_succ, List.map_append]; simp [hi], hJ3, hBs3, hBn3⟩
      case measure => simp [intOf]; omega
     ·gi_wp2
      refine bodyPost_ret (results_none rfl _ _ _) rfl ?_
      exact ⟨⟨_, rfl⟩, .inr ⟨_, trivial, hJx3⟩⟩)
   ·rw [Nat.min_eq_right (by omega)] at hy
    have q1 : decide ((m : Int) ≤ ((len - i : Nat) : Int)) = false := decide_eq_false (by omega)
    have q2 : ((i : Int) + ((len - i : Nat) : Int)).toNat - i = len - i := by omega
    gi_wp2
    gi_region_o
    gi_wp2
    all_goals (
     refine hR.mono ?_
     rintro e W3 (⟨rfl, hJ3, hk3, hk4⟩ | ⟨rfl, hJx3⟩)
     ·have hBs3 : Boxed W3 Bs 22 (.slice (some ad) len cap) := hk3.trans hBs
      have hBn3 : Boxed W3 Bn 3 (.int .i64 m) := hk4.trans hBn
      have hbn3 := hBn3.cell
      gi_wp2
      go_roundw
      case rel => exact ⟨j + 1, pre ++ [⟨i, hlt⟩], by rw [Nat.add_mul, Nat.one_mul, hi]; push_cast; rfl, by rw [Nat.add_mul, Nat.one_mul, hi]; omega, by rw [List.map_append, hpre, List.range_succ, List.map_append]; simp [hi], hJ3, hBs3, hBn3⟩
      case measure => simp [intOf]; omega
     ·gi_wp2
      refine bodyPost_ret (results_none rfl _ _ _) rfl ?_
      exact ⟨⟨_, rfl⟩, .inr ⟨_, trivial, hJx3⟩⟩)
  ·have e := disk_cut.count (len := len) (j := j) hm (by rw [hi]; omega) (by rw [hi]; omega)
   gi_wp2
   go_end0
   exact ⟨⟨_, rfl⟩, .inl ⟨pre, by rw [hpre, disk_cut.offs, e], hJs⟩⟩
theorem disk_cut.step_append {α : Type} (d : Kd α) {F : Fence} {n : Nat} {P : Program} {ops : Array Oper} {o : Oper} {a : Act} {K : Act → World → Prop} {Q : Exit → Act → World → Prop} {w0 W : World} (base : Nat) (hw : Region.wanted o (yielded ops a.tmps) = true) (s x : Operand) (t e : TypeId) (z : Value) (bytes : Nat)
  (ho : o.op = .call { callee := .builtin .append, args := #[s, x], argTypes := #[t, t] })
  (ht : P.underlying t = some (.slice e)) (hinfo : (P.info? e).map (fun i => (i.zero, i.size, i.bytes)) = some (some z, d.sz, bytes)) (hz : z.cells.size = d.sz) (hs0 : 0 < d.sz) (hb0 : 0 < bytes)
  (v : Value) (xs : List α) (p : α) (cs : List Value) (ok okp : Nat → Prop) (hs : a.eval s = v) (hx : a.eval x = .slice (some ⟨W.heap.size, 0, none⟩) 1 1) (hp : d.M W base okp p cs) (hokp : ∀ k, okp k → ok k ∧ some k ≠ v.ownBlock) (hfresh : ∀ k, W.heap.size ≤ k → ok k)
  (HO : d.R e W base ok v xs) (HB : Below base w0 W) (hbase : base ≤ W.heap.size) (hl : (xs.length + 1) * bytes ≤ 140737488355328)
  (h : ∀ v1 w1, d.R e w1 base ok v1 (xs ++ [p]) → Below base w0 w1 → W.grownBy w1 v.ownBlock → K (a.put o.dst v1) w1) :
  if Region.wanted o (yielded ops a.tmps) = true then Oper.wpIn F n P o a (W.alloc (.cells cs.toArray e)) K Q else (∀ f, o.about P (W.alloc (.cells cs.toArray e)) a.eval = some f → F.fn f) ∧ K (a.put o.dst undef) (W.alloc (.cells cs.toArray e)) := by
 rw [if_pos hw]
 obtain ⟨h0, inner, hown, hr⟩ := HO
 obtain ⟨i0, hi, hzz⟩ := Option.map_eq_some_iff.1 hinfo
 simp only [Prod.mk.injEq] at hzz
 obtain ⟨hz0, hz1, hz2⟩ := hzz
 have hlen : xs.length + 1 ≤ 140737488355328 := Nat.le_trans (Nat.le_mul_of_pos_right _ hb0) hl
 have hys := d.K_len (d.K_of_M hp)
 obtain ⟨v', w', hrun, r1, r2, _, r4⟩ := run_append_own_at (P := P) (W.alloc (.cells cs.toArray e)) base t o.type e i0 z d.sz bytes ht hi hz0 hz1 hz2 hz hs0 v xs.length inner (hown.alloc _) ⟨W.heap.size, 0, none⟩ 1 1 cs (by rw [hys]; simp)
  (by simpa using World.news_of_block (cs := cs.toArray) (t := e) (fr := (0, 0)) (heap_alloc_new W (.cells cs.toArray e))) (d.K_one (d.K_of_M hp)) (by simp only [maxLen]; omega) hl (by simp; omega)
 have hg := World.grownBy.trans (World.grownBy_alloc W (.cells cs.toArray e) v.ownBlock) r2
 have hat : v'.ownBlock = v.ownBlock ∨ ∃ b, v'.ownBlock = some b ∧ W.heap.size ≤ b := by
  rcases r4 with r4 | r4
  ·exact .inl r4
  ·exact .inr ⟨_, r4, by simp⟩
 unfold Oper.wpIn
 refine ⟨?_, ?_⟩
 ·simp [Oper.about, ho, resolve, Target.leads, Sem.run_pure]
 ·rw [Oper.semAt_plain F _ _ (by rw [ho]; intro c hc'; cases hc')]
  simp [execOp, ho, resolve, invoke, builtin, hs, hx, hrun, Result.andThen]
  exact h v' w' (Kd.R_appended h0 hr hp hokp hfresh r1 hg hat) ((HB.alloc hbase _).grown r2 (by simp; omega) (own_base hown)) hg
def disk_cut.Kp (Bs Bn : Nat) (W W' : World) : Prop := W'.heap[Bs]? = W.heap[Bs]? ∧ W'.heap[Bn]? = W.heap[Bn]?
theorem disk_cut.stops (F : Fence) (n : Nat) (hF : F.fn 58) (hro : F.round = none) (hn : 1 ≤ n) (Bs Bn : Nat) (A : Option Addr) (len cap m : Nat) (hA : 0 < len → ∃ ad, A = some ad) (hm : 0 < m) (hm2 : m ≤ 1000000) (hlen : len ≤ 1099511627776) (hcap : len ≤ cap)
  (w : World) (hBs : Boxed w Bs 22 (.slice A len cap)) (hBn : Boxed w Bn 3 (.int .i64 m)) :
  SeqStopsK F n Try.prog 58 #[.pointer (some ⟨Bs, 0, none⟩), .pointer (some ⟨Bn, 0, none⟩)] (fun x : { i : Nat // i < len } => #[disk_cut.piece A len m x.1]) (disk_cut.Kp Bs Bn) (fun ys => ys.map Subtype.val = disk_cut.offs len m) (fun _ => True) len w := fun l J Jx W hW hJ _ hY h0 =>
 disk_cut.chunk1 F n hF hro hn l Bs Bn A len cap m hA hm hm2 hlen hcap J Jx hY W hJ ((hW.block Bs hBs.lt).trans hBs) ((hW.block Bn hBn.lt).trans hBn) h0
set_option maxHeartbeats 1000000 in
theorem disk_cut.chunk (A : Option Addr) (len cap m : Nat) (hm : 0 < m) (w : World) :
  Calls Try.prog 51 #[.slice A len cap, .int .i64 m] w fun e w' => e = .returned (.func (.func 58) #[] #[.pointer (some ⟨w.heap.size, 0, none⟩), .pointer (some ⟨w.heap.size + 1, 0, none⟩)]) ∧ w' = (w.alloc (.cells #[.slice A len cap] 22)).alloc (.cells #[.int .i64 m] 3) := by
 have s1 : decide ((m : Int) < 1) = false := decide_eq_false (by omega)
 go_enter Try.func51, Try.ntmps51
 go_wp2
 go_ret
 exact ⟨rfl, rfl⟩
def disk_cut.f (a0 : Int) (l1 : List Int) : Option ((Int) × (List (List Int))) :=
 if l1.length ≤ 1099511627776 then some (a0, (disk_cut.offs l1.length (if a0 = 3 then 65536 else 65500)).map fun i => (l1.drop i).take (if a0 = 3 then 65536 else 65500)) else none
def disk_cut.mine (w : World) (form : Int) (A : Option Addr) (cap : Nat) (l1 : List Int) (m : Nat) (pre : List { i : Nat // i < l1.length }) (W : World) : Prop :=
 ∃ v, W.heap[w.heap.size]? = some (.cells #[.int .u8 0, .slice none 0 0] 30 (0, 0)) ∧ W.heap[w.heap.size + 1]? = some (.cells #[.int .u8 form, v] 30 (0, 0)) ∧ Kd.R (Kd.slice 5 (Kd.int .u8)) 22 W (w.heap.size + 4) (fun _ => True) v (pre.map fun x => (l1.drop x.1).take m) ∧ Below w.heap.size w W ∧ Boxed W (w.heap.size + 2) 22 (.slice A l1.length cap) ∧ Boxed W (w.heap.size + 3) 3 (.int .i64 m)
theorem disk_cut.mine_own (w : World) (form : Int) (A : Option Addr) (cap : Nat) (l1 : List Int) (m B : Nat) (hB : w.heap.size + 4 ≤ B) : OwnFrom B (disk_cut.mine w form A cap l1 m) := by
 rintro pre W W' row ⟨v, h0, h1, hR, hb, h2, h3⟩ hg hr
 have lt : ∀ {k : Nat} {o : Obj}, W.heap[k]? = some o → k < W.heap.size := fun h => (Array.getElem?_eq_some_iff.1 h).1
 have ne : ∀ k, k < w.heap.size + 4 → some k ≠ row := fun k hk e => by have := (hr k e.symm).1; omega
 refine ⟨v, (hg.block _ (lt h0) (ne _ (by omega))).trans h0, (hg.block _ (lt h1) (ne _ (by omega))).trans h1, ?_, hb.grown hg hb.size (fun k e => by have := (hr k e).1; omega), (hg.block _ h2.lt (ne _ (by omega))).trans h2, (hg.block _ h3.lt (ne _ (by omega))).trans h3⟩
 refine Kd.R_mono (Kd.R_step (Kd.R_bound hR) (fun k hk hlt => hg.block k hlt (fun e => ?_))) (fun _ _ => trivial)
 obtain ⟨_, _, _, q, _, cells, hc⟩ := hk
 obtain ⟨_, o, ho, hn⟩ := hr k e.symm
 rw [hc] at ho
 cases ho
 cases hn
theorem disk_cut.dat (l : List Int) (m i : Nat) : (l.take (i + min m (l.length - i))).drop i = (l.drop i).take m := by
 rw [List.drop_take, Nat.add_sub_cancel_left]
 rcases Nat.le_total m (l.length - i) with h | h
 ·rw [Nat.min_eq_left h]
 ·rw [Nat.min_eq_right h, List.take_of_length_le (by simp), List.take_of_length_le (by simp; omega)]
theorem disk_cut.clone (ad : Addr) (n c0 : Nat) (l0 : List Int) (w : World) (hn : l0.length = n) (hl : n ≤ 140737488355328) (h : Kd.C (Kd.int .u8) w (some ad) l0.length l0) : Calls Try.prog 41 #[.slice (some ad) n c0] w fun e w' => ∃ v', e = .returned v' ∧ Kd.R (Kd.int .u8) 5 w' w.heap.size (fun _ => True) v' l0 ∧ Below w.heap.size w w' := by
 refine (Try.bytes_Clone_at ad n c0 l0 w hn hl ?_).mono ?_
 ·intro i hi
  obtain ⟨ad, he, hc⟩ := Kd.at_int h (i : Int) (by omega) (by omega)
  cases he
  exact hc
 ·rintro e w' ⟨v', rfl, hown, _, hb⟩
  subst hn
  exact ⟨v', rfl, Kd.R_of_own (enc := Value.int .u8) hown (fun _ _ => trivial), hb⟩
theorem disk_cut.info_sl : (Try.prog.info? 22).map (fun i => (i.zero, i.size, i.bytes)) = some (some (.slice none 0 0), 1, 24) := by kernel_rfl
theorem disk_cut.pieceM {w5 : World} {b1 b2 k c5 : Nat} {A5 : Option Addr} {dat : List Int} (h : Kd.R (Kd.int .u8) 5 w5 b2 (fun _ => True) (.slice A5 k c5) dat) (hb : b1 ≤ b2) : (Kd.slice 5 (Kd.int .u8)).M w5 b1 (fun q => b2 ≤ q) dat [.slice A5 k c5] :=
 ⟨_, rfl, Kd.R_lower (Kd.R_mono (Kd.R_bound h) (fun _ hk => hk.2.1)) hb⟩
theorem disk_cut.round_end {w W w5 w6 W0 : World} {a0 : Int} {A1 : Option Addr} {c1 : Nat} (l1 : List Int) (m : Nat) (pre : List { i : Nat // i < l1.length }) (x : { i : Nat // i < l1.length }) {v v6 : Value}
  (hR : Kd.R (Kd.slice 5 (Kd.int .u8)) 22 W (w.heap.size + 4) (fun _ => True) v (pre.map fun x => (l1.drop x.1).take m)) (hb5 : Below W.drew.heap.size W.drew w5) (hg6 : w5.grownBy w6 v.ownBlock)
  (hr6 : Kd.R (Kd.slice 5 (Kd.int .u8)) 22 w6 (w.heap.size + 4) (fun _ => True) v6 ((pre.map fun x => (l1.drop x.1).take m) ++ [(l1.drop x.1).take m])) (hb6 : Below (w.heap.size + 4) W w6)
  (h0 : W.heap[w.heap.size]? = some (.cells #[.int .u8 0, .slice none 0 0] 30 (0, 0))) (hs : W.heap[w.heap.size + 1]? = some (.cells #[.int .u8 a0, v] 30 (0, 0))) (hB : Below w.heap.size w W) (h2 : Boxed W (w.heap.size + 2) 22 (.slice A1 l1.length c1)) (h3 : Boxed W (w.heap.size + 3) 3 (.int .i64 m))
  (_h4 : w.heap.size + 4 ≤ W.heap.size) (hS0 : W0.heap.size = w.heap.size + 4) :
  KeepsFrom W0.heap.size W (w6.setCell ⟨w.heap.size + 1, 1, none⟩ v6) ∧ disk_cut.Kp (w.heap.size + 2) (w.heap.size + 3) W (w6.setCell ⟨w.heap.size + 1, 1, none⟩ v6) ∧ disk_cut.mine w a0 A1 c1 l1 m (pre ++ [x]) (w6.setCell ⟨w.heap.size + 1, 1, none⟩ v6) := by
 have far : ∀ q, q ≠ w.heap.size + 1 → (w6.setCell ⟨w.heap.size + 1, 1, none⟩ v6).heap[q]? = w6.heap[q]? := fun q hq => Below.heap_setCell w6 _ v6 q hq
 have k2 : (w6.setCell ⟨w.heap.size + 1, 1, none⟩ v6).heap[w.heap.size + 2]? = W.heap[w.heap.size + 2]? := (far _ (by omega)).trans (hb6.block _ (by omega))
 have k3 : (w6.setCell ⟨w.heap.size + 1, 1, none⟩ v6).heap[w.heap.size + 3]? = W.heap[w.heap.size + 3]? := (far _ (by omega)).trans (hb6.block _ (by omega))
 have hsz : w6.heap.size ≤ (w6.setCell ⟨w.heap.size + 1, 1, none⟩ v6).heap.size := (KeepsWalks.setCell w6 _ v6).size
 refine ⟨⟨Nat.le_trans hb6.size hsz, fun q o hq ho hn => ?_⟩, ⟨k2, k3⟩, ⟨v6, ?_, ?_, ?_, ?_, k2.trans h2, k3.trans h3⟩⟩
 ·have hlt := (Array.getElem?_eq_some_iff.1 ho).1
  rw [far q (by omega), hg6.block q (Nat.lt_of_lt_of_le hlt hb5.size) (fun e => ?_), hb5.block q hlt]
  ·exact ho
  ·obtain ⟨cells, hc⟩ := Kd.R_typed hR q e.symm
   rw [hc] at ho
   cases ho
   cases hn
 ·exact (far _ (by omega)).trans ((hb6.block _ (by omega)).trans h0)
 ·exact blk_put ((hb6.block _ (by omega)).trans hs) 1 v6 rfl
 ·rw [List.map_append]
  exact Kd.R_mono (Kd.R_far (Kd.R_bound hr6) (fun q hq => by have := hq.2.1; show q ≠ w.heap.size + 1; omega) v6) (fun _ _ => trivial)
 ·exact hB.trans ((hb6.mono (B' := w.heap.size) (by omega)).setCell (p := ⟨w.heap.size + 1, 1, none⟩) (by show w.heap.size ≤ w.heap.size + 1; omega) v6)
theorem disk_cut.fin {w W : World} {a0 : Int} (l1 : List Int) (m : Nat) (ys : List { i : Nat // i < l1.length }) (hys : ys.map Subtype.val = disk_cut.offs l1.length m) {Av : Option Addr} {cv D : Nat}
  (hR : Kd.R (Kd.slice 5 (Kd.int .u8)) 22 W (w.heap.size + 4) (fun _ => True) (.slice Av ys.length cv) (ys.map fun x => (l1.drop x.1).take m))
  (h0 : W.heap[w.heap.size]? = some (.cells #[.int .u8 0, .slice none 0 0] 30 (0, 0))) (hB : Below w.heap.size w W) (hD : w.heap.size + 4 ≤ D) (hK : W.heap[D]? = some (.deferred (some []))) :
  let w2 := (W.setCell ⟨w.heap.size, 0, none⟩ (.int .u8 a0)).setCell ⟨w.heap.size, 1, none⟩ (.slice Av ys.length cv)
  w2.heap[D]? = some (.deferred (some [])) ∧ (w2.putObj D (.deferred none)).heap[w.heap.size]? = some (.cells #[.int .u8 a0, .slice Av ys.length cv] 30 (0, 0)) ∧
  Kd.V (Kd.slice 5 (Kd.int .u8)) 22 (w2.putObj D (.deferred none)) w.heap.size (fun k_ => (w.heap.size ≤ k_)) (.slice Av ys.length cv) ((disk_cut.offs l1.length m).map fun i => (l1.drop i).take m) ∧ Below w.heap.size w (w2.putObj D (.deferred none)) := by
 intro w2
 have far : ∀ q, q ≠ w.heap.size → w2.heap[q]? = W.heap[q]? := fun q hq => (Below.heap_setCell _ _ _ q hq).trans (Below.heap_setCell W _ _ q hq)
 have hK2 : w2.heap[D]? = some (.deferred (some [])) := (far D (by omega)).trans hK
 have e : (ys.map fun x => (l1.drop x.1).take m) = (disk_cut.offs l1.length m).map fun i => (l1.drop i).take m := by rw [← hys, List.map_map]; rfl
 refine ⟨hK2, (World.putObj_heap_other (by omega)).trans (blk_put (blk_put h0 0 _ rfl) 1 _ rfl), ?_, ?_⟩
 ·rw [← e]
  have h3 := Kd.R_step (w1 := w2.putObj D (.deferred none)) (Kd.R_bound hR) (fun q hq hlt => by
   obtain ⟨_, hb, _, p, _, cells, hc⟩ := hq
   have hne : q ≠ D := fun e => by rw [e, hK] at hc; cases hc
   exact (World.putObj_heap_other hne).trans (far q (by omega)))
  exact Kd.V_mono (Kd.N_V (Kd.R_N h3)) (fun q hq => Nat.le_trans (Nat.le_add_right _ 4) hq.2.1)
 ·have h1 : Below w.heap.size W w2 := ((Below.refl w.heap.size W).setCell (p := ⟨w.heap.size, 0, none⟩) (Nat.le_refl _) _).setCell (p := ⟨w.heap.size, 1, none⟩) (Nat.le_refl _) _
  exact hB.trans (h1.trans (belowK_b (w := w) (Nat.le_refl _) w2 D _ _ (by omega) hK2 rfl rfl))
theorem disk_cut.start (w : World) (a0 : Int) (A1 : Option Addr) (c1 : Nat) (l1 : List Int) (m nd : Nat) :
  disk_cut.mine w a0 A1 c1 l1 m [] (((((w.alloc (.cells #[.int .u8 0, .slice none 0 0] 30)).alloc (.cells #[.int .u8 a0, .slice none 0 0] 30)).drewN nd).alloc (.cells #[.slice A1 l1.length c1] 22)).alloc (.cells #[.int .i64 m] 3)) := by
 obtain ⟨x1, e1⟩ : ∃ x, x = w.alloc (.cells #[.int .u8 0, .slice none 0 0] 30) := ⟨_, rfl⟩
 have s1 : x1.heap.size = w.heap.size + 1 := by rw [e1]; simp
 have a1 : x1.heap[w.heap.size]? = some (.cells #[.int .u8 0, .slice none 0 0] 30 (0, 0)) := by rw [e1]; exact heap_alloc_new w _
 have b1 : Below w.heap.size w x1 := by rw [e1]; exact (Below.refl _ w).alloc (Nat.le_refl _) _
 rw [← e1]
 obtain ⟨x2, e2⟩ : ∃ x, x = (x1.alloc (.cells #[.int .u8 a0, .slice none 0 0] 30)).drewN nd := ⟨_, rfl⟩
 have s2 : x2.heap.size = w.heap.size + 2 := by rw [e2]; show (x1.heap.push _).size = _; simp [s1]
 have a2 : x2.heap[w.heap.size + 1]? = some (.cells #[.int .u8 a0, .slice none 0 0] 30 (0, 0)) := by rw [e2, ← s1]; exact heap_alloc_new x1 _
 have a1 : x2.heap[w.heap.size]? = some (.cells #[.int .u8 0, .slice none 0 0] 30 (0, 0)) := by rw [e2]; exact blk_alloc a1 _
 have b2 : Below w.heap.size w x2 := by rw [e2]; exact pw_below_drewN (b1.alloc (by omega) _) nd
 rw [← e2]
 obtain ⟨x3, e3⟩ : ∃ x, x = x2.alloc (.cells #[.slice A1 l1.length c1] 22) := ⟨_, rfl⟩
 have s3 : x3.heap.size = w.heap.size + 3 := by rw [e3]; simp [s2]
 have a3 : x3.heap[w.heap.size + 2]? = some (.cells #[.slice A1 l1.length c1] 22 (0, 0)) := by rw [e3, ← s2]; exact heap_alloc_new x2 _
 have a2 : x3.heap[w.heap.size + 1]? = some (.cells #[.int .u8 a0, .slice none 0 0] 30 (0, 0)) := by rw [e3]; exact blk_alloc a2 _
 have a1 : x3.heap[w.heap.size]? = some (.cells #[.int .u8 0, .slice none 0 0] 30 (0, 0)) := by rw [e3]; exact blk_alloc a1 _
 have b3 : Below w.heap.size w x3 := by rw [e3]; exact b2.alloc (by omega) _
 rw [← e3]
 have a4 : (x3.alloc (.cells #[.int .i64 m] 3)).heap[w.heap.size + 3]? = some (.cells #[.int .i64 m] 3 (0, 0)) := by rw [← s3]; exact heap_alloc_new x3 _
 exact ⟨.slice none 0 0, blk_alloc a1 _, blk_alloc a2 _, Kd.R_nil _ _ _ _ _, b3.alloc (by omega) _, blk_alloc a3 _, a4⟩
theorem disk_cut.zero (w : World) : Sem.run Try.prog (zeroValue 30) w = .ok (.agg #[.int .u8 0, .slice none 0 0]) w := by kernel_rfl
set_option maxRecDepth 100000 in
set_option maxHeartbeats 8000000 in
theorem disk_cut.cut_in (n : Nat) (hn : 4 ≤ n) (a0 : Int) (A1 : Option Addr) (c1 : Nat) (l1 : List Int) (m : Nat) (hmv : m = if a0 = 3 then 65536 else 65500) (w : World) (hr1 : Kd.C (Kd.int .u8) w A1 l1.length l1) (hc1 : l1.length ≤ c1) (hlen : l1.length ≤ 1099511627776) :
  CallsIn Fence.wide n Try.prog 31 #[.int .u8 a0, .slice A1 l1.length c1] w fun e w' => ∃ v1_ : Value, e = .returned (.agg #[.int .u8 a0, v1_]) ∧ Kd.V (Kd.slice 5 (Kd.int .u8)) 22 w' w.heap.size (fun k_ => (w.heap.size ≤ k_)) v1_ ((disk_cut.offs l1.length m).map fun i => (l1.drop i).take m) ∧ Below w.heap.size w w' := by
 have h1 : 1 ≤ n := by omega
 have hm : 0 < m := by rw [hmv]; split <;> omega
 have hm2 : m ≤ 1000000 := by rw [hmv]; split <;> omega
 have he : disk_each.f a0 = some (m : Int) := by unfold disk_each.f; rw [hmv]; split <;> rfl
 have HE := Aside0.mk he
 have hz := disk_cut.zero
 clear hmv he
 refine callsIn_of_wp_marks Try.func31 rfl trivial ?_ rfl
 simp only [Try.ntmps31, List.size_toArray, List.length_cons, List.length_nil, Nat.reduceAdd, Nat.reduceSub, Array.replicate_succ, Array.replicate_zero, List.push_toArray, List.append_toArray, List.nil_append, List.cons_append]
 gi_wp2_with (first | (refine ⟨trivial, ?_⟩; gi_at_call 34; refine (callsIn_wide.2 (disk_each.calls a0 m _ HE.out)).mono ?_; rintro e w' ⟨rfl, nd, rfl⟩) | (refine ⟨trivial, ?_⟩; gi_at_call 51; refine (callsIn_wide.2 (disk_cut.chunk A1 l1.length c1 m hm _)).mono ?_; rintro e w' ⟨rfl, rfl⟩))
 obtain ⟨W0, hW0⟩ : ∃ W0, (((((w.alloc (.cells #[.int .u8 0, .slice none 0 0] 30)).alloc (.cells #[.int .u8 a0, .slice none 0 0] 30)).drewN nd).alloc (.cells #[.slice A1 l1.length c1] 22)).alloc (.cells #[.int .i64 m] 3)) = W0 := ⟨_, rfl⟩
 have hS0 : W0.heap.size = w.heap.size + 4 := by rw [← hW0]; simp [World.drewN]
 have hM0 : disk_cut.mine w a0 A1 c1 l1 m [] W0 := by
  rw [← hW0]
  exact disk_cut.start w a0 A1 c1 l1 m nd
 have hA : 0 < l1.length → ∃ ad, A1 = some ad := fun h => let ⟨ad, e, _⟩ := hr1.2.2 h; ⟨ad, e⟩
 obtain ⟨v0, _, _, _, hBw, hBs, hBn⟩ := id hM0
 rw [hW0]
 clear hW0
 refine wpIn_rangeFunc_ownG rfl h1 (gf := 58) (lb := #[.pointer (some ⟨w.heap.size + 1 + 1, 0, none⟩), .pointer (some ⟨w.heap.size + 1 + 1 + 1, 0, none⟩)]) rfl trivial (enters_of Try.func58 (by kernel_rfl) rfl)
  (disk_cut.stops Fence.wide (n - 1) trivial rfl (by omega) (w.heap.size + 2) (w.heap.size + 3) A1 l1.length c1 m hA hm hm2 hlen hc1 W0 hBs hBn)
  (fun h k => ⟨k.1.trans h.1, k.2.trans h.2⟩) (fun W l o o' hl _ _ _ => ⟨World.putObj_heap_other (by omega), World.putObj_heap_other (by omega)⟩) (Below.refl _ _) (fun _ => rfl)
  (disk_cut.mine w a0 A1 c1 l1 m) (fun _ _ _ => False) (disk_cut.mine_own w a0 A1 c1 l1 m _ (by omega)) (fun _ _ _ _ _ hs _ _ => hs) hM0
  (fun x => { tmps := #[.int .u8 a0, .slice A1 l1.length c1, undef, undef, .pointer (some ⟨w.heap.size, 0, none⟩), .pointer (some ⟨w.heap.size + 1, 0, none⟩), .slice (A1.map (·.add x.1)) (min m (l1.length - x.1)) (min m (l1.length - x.1)), .int .u8 a0, .agg #[.int .u8 a0, .slice none 0 0], .slice A1 l1.length c1, .int .u8 a0, .int .i64 m, .func (.func 58) #[] #[.pointer (some ⟨w.heap.size + 1 + 1, 0, none⟩), .pointer (some ⟨w.heap.size + 1 + 1 + 1, 0, none⟩)], .slice (A1.map (·.add x.1)) (min m (l1.length - x.1)) (min m (l1.length - x.1)), undef, undef, undef, undef, undef, undef, undef, undef], defers := [] }) ?assign ?body ?done ?stop
 case assign =>
  intro l x W K hK
  gi_wp2
  exact hK
 case body =>
  rintro l pre x W ⟨v, h0, hs, hR, hB, hb2, hb3⟩ hlt
  have hd : 1 ≤ n - 1 - 1 := by omega
  have hmx : Try.prog.follows .mixedOrders = true := by kernel_rfl
  obtain ⟨xi, hxi⟩ := x
  obtain ⟨ad, rfl⟩ := hA (by omega)
  have hC0 : Kd.C (Kd.int .u8) W (some (ad.add xi)) ((l1.drop xi).take m).length ((l1.drop xi).take m) := by
   have h2 := Kd.C_mid (c := c1) (lo := xi) (hi := xi + min m (l1.length - xi)) (Kd.C_below hr1 hB) (by omega) (by omega) hc1
   rw [if_neg (by omega), disk_cut.dat, show xi * (Kd.int .u8).sz = xi from Nat.mul_one xi] at h2
   exact h2
  have hCl : ((l1.drop xi).take m).length = min m (l1.length - xi) := by simp
  have HC := Aside0.mk (Kd.C_drew hC0)
  have hcs : W.cell? ⟨w.heap.size + 1, 0, none⟩ = some (.int .u8 a0) := (blk_cell hs 0).trans rfl
  have hcv : W.cell? ⟨w.heap.size + 1, 1, none⟩ = some v := (blk_cell hs 1).trans rfl
  have hlt1 := (Array.getElem?_eq_some_iff.1 hs).1
  have HR := Aside0.mk hR
  have H0 := Aside0.mk h0
  have HBW := Aside0.mk hB
  have H2 := Aside0.mk hb2
  have H3 := Aside0.mk hb3
  have hB4 : w.heap.size + 4 ≤ W.heap.size := hb3.lt
  have HS := Aside0.mk hs
  dsimp only [Option.map_some]
  clear hC0 hs hR h0 hB hb2 hb3
  obtain ⟨k, hk⟩ : ∃ k, min m (l1.length - xi) = k := ⟨_, rfl⟩
  rw [hk] at hCl ⊢
  have hk2 : k ≤ 140737488355328 := by omega
  clear hk
  gi_wp2
  refine wpIn_region_any (by assumption) ?_
  change wpAnyIn _ _ _ _ _ _ _ _ _ (World.drew _)
  refine wpAnyIn_ready (rs := [0, 2]) (by kernel_rfl) (by simp) ?_
  refine AllReadyIn.cons rfl (fun K hK => ?_) ?_
  ·go_simp
   refine hK _ _ ?_
   clear hK K
   refine wpAnyIn_ready (rs := [1, 2]) (by kernel_rfl) (by simp) ?_
   refine AllReadyIn.cons rfl (fun K hK => ?_) ?_
   ·go_simp
    refine hK _ _ ?_
    clear hK K
    refine wpAnyIn_ready (rs := [2]) (by kernel_rfl) (by simp) ?_
    refine AllReadyIn.cons rfl (fun K hK => ?_) ?_
    ·go_simp
     refine hK _ _ ?_
     clear hK K
     refine wpAnyIn_ready (rs := [3]) (by kernel_rfl) (by simp) ?_
     refine AllReadyIn.cons rfl (fun K hK => ?_) ?_
     ·go_simp
      refine ⟨trivial, ?_⟩; refine (CallsIn.inRound l (callsIn_wide.2 (disk_cut.clone (ad.add xi) k k _ _ hCl hk2 HC.out))).mono ?_; rintro e w5 ⟨v5, rfl, hv5, hb5⟩; obtain ⟨A5, c5, rfl⟩ := Kd.R_slice hv5; have hs5 := (hb5.block _ hlt1).trans HS.out; have hcv5 : w5.cell? ⟨w.heap.size + 1, 1, none⟩ = some v := (blk_cell hs5 1).trans rfl; have hcv6 : (w5.alloc (.cells #[.slice A5 ((l1.drop xi).take m).length c5] 22)).cell? ⟨w.heap.size + 1, 1, none⟩ = some v := (blk_cell (blk_alloc hs5 _) 1).trans rfl; have HV5 := Aside0.mk hv5; have HB5 := Aside0.mk hb5; clear hv5 hb5; rw [hCl] at hcv6 HV5 ⊢; refine hK _ _ ?_
      clear hK K
      refine wpAnyIn_ready (rs := [4]) (by kernel_rfl) (by simp) ?_
      refine AllReadyIn.cons rfl (fun K hK => ?_) ?_
      ·go_simp
       refine hK _ _ ?_
       clear hK K
       refine wpAnyIn_ready (rs := [5]) (by kernel_rfl) (by simp) ?_
       refine AllReadyIn.cons rfl (fun K hK => ?_) ?_
       ·refine disk_cut.step_append (Kd.slice 5 (Kd.int .u8)) (w0 := W) (W := w5) (w.heap.size + 4) rfl (.tmp 15) (.tmp 18) 28 22 (.slice none 0 0) 24 rfl Try.underlying28 disk_cut.info_sl rfl (by decide) (by omega) v (pre.map fun x => (l1.drop x.1).take m) ((l1.drop xi).take m) [.slice A5 k c5] (fun _ => True) (fun q => W.heap.size ≤ q) rfl rfl (disk_cut.pieceM HV5.out (Nat.le_trans hB4 (Nat.le_refl W.heap.size))) (fun q hq => ⟨trivial, fun e => by have := Kd.R_lt HR.out q e.symm; omega⟩) (fun _ _ => trivial) (Kd.R_below (Kd.R_drew HR.out) HB5.out) ((Below.refl (w.heap.size + 4) W).drew.trans (HB5.out.mono hB4)) (Nat.le_trans hB4 HB5.out.size) (by rw [List.length_map]; omega) ?_; intro v6 w6 hr6 hb6 hg6; have END_ := Aside0.mk (disk_cut.round_end l1 m pre ⟨xi, hxi⟩ HR.out HB5.out hg6 hr6 hb6 H0.out HS.out HBW.out H2.out H3.out hB4 hS0); obtain ⟨A6, c6, e6⟩ := Kd.R_slice hr6; rw [List.length_append, List.length_map, List.length_singleton] at e6; subst e6; have hs6 := (hb6.block _ (by omega)).trans HS.out; have hcw6 : w6.cell? ⟨w.heap.size + 1, 1, none⟩ = some v := (blk_cell hs6 1).trans rfl; have hfw6 := blk_frozen hs6 1; clear hr6 hb6 hg6 hs6; refine hK _ _ ?_
        clear hK K
        refine wpAnyIn_ready (rs := [6]) (by kernel_rfl) (by simp) ?_
        refine AllReadyIn.cons rfl (fun K hK => ?_) ?_
        ·go_simp
         refine hK _ _ ?_
         clear hK K
         refine wpAnyIn_ready (rs := [7]) (by kernel_rfl) (by simp) ?_
         refine AllReadyIn.cons rfl (fun K hK => ?_) ?_
         ·go_simp
          refine hK _ _ ?_
          clear hK K
          refine wpAnyIn_done (by kernel_rfl) ?_ _
          exact END_.out
         exact AllReadyIn.nil
        exact AllReadyIn.nil
       exact AllReadyIn.nil
      exact AllReadyIn.nil
     exact AllReadyIn.nil
    exact AllReadyIn.nil
   refine AllReadyIn.cons rfl (fun K hK => ?_) ?_
   ·go_simp
    refine hK _ _ ?_
    clear hK K
    refine wpAnyIn_ready (rs := [1, 3]) (by kernel_rfl) (by simp) ?_
    refine AllReadyIn.cons rfl (fun K hK => ?_) ?_
    ·go_simp
     refine hK _ _ ?_
     clear hK K
     refine wpAnyIn_ready (rs := [3]) (by kernel_rfl) (by simp) ?_
     refine AllReadyIn.cons rfl (fun K hK => ?_) ?_
     ·go_simp
      refine ⟨trivial, ?_⟩; refine (CallsIn.inRound l (callsIn_wide.2 (disk_cut.clone (ad.add xi) k k _ _ hCl hk2 HC.out))).mono ?_; rintro e w5 ⟨v5, rfl, hv5, hb5⟩; obtain ⟨A5, c5, rfl⟩ := Kd.R_slice hv5; have hs5 := (hb5.block _ hlt1).trans HS.out; have hcv5 : w5.cell? ⟨w.heap.size + 1, 1, none⟩ = some v := (blk_cell hs5 1).trans rfl; have hcv6 : (w5.alloc (.cells #[.slice A5 ((l1.drop xi).take m).length c5] 22)).cell? ⟨w.heap.size + 1, 1, none⟩ = some v := (blk_cell (blk_alloc hs5 _) 1).trans rfl; have HV5 := Aside0.mk hv5; have HB5 := Aside0.mk hb5; clear hv5 hb5; rw [hCl] at hcv6 HV5 ⊢; refine hK _ _ ?_
      clear hK K
      refine wpAnyIn_ready (rs := [4]) (by kernel_rfl) (by simp) ?_
      refine AllReadyIn.cons rfl (fun K hK => ?_) ?_
      ·go_simp
       refine hK _ _ ?_
       clear hK K
       refine wpAnyIn_ready (rs := [5]) (by kernel_rfl) (by simp) ?_
       refine AllReadyIn.cons rfl (fun K hK => ?_) ?_
       ·refine disk_cut.step_append (Kd.slice 5 (Kd.int .u8)) (w0 := W) (W := w5) (w.heap.size + 4) rfl (.tmp 15) (.tmp 18) 28 22 (.slice none 0 0) 24 rfl Try.underlying28 disk_cut.info_sl rfl (by decide) (by omega) v (pre.map fun x => (l1.drop x.1).take m) ((l1.drop xi).take m) [.slice A5 k c5] (fun _ => True) (fun q => W.heap.size ≤ q) rfl rfl (disk_cut.pieceM HV5.out (Nat.le_trans hB4 (Nat.le_refl W.heap.size))) (fun q hq => ⟨trivial, fun e => by have := Kd.R_lt HR.out q e.symm; omega⟩) (fun _ _ => trivial) (Kd.R_below (Kd.R_drew HR.out) HB5.out) ((Below.refl (w.heap.size + 4) W).drew.trans (HB5.out.mono hB4)) (Nat.le_trans hB4 HB5.out.size) (by rw [List.length_map]; omega) ?_; intro v6 w6 hr6 hb6 hg6; have END_ := Aside0.mk (disk_cut.round_end l1 m pre ⟨xi, hxi⟩ HR.out HB5.out hg6 hr6 hb6 H0.out HS.out HBW.out H2.out H3.out hB4 hS0); obtain ⟨A6, c6, e6⟩ := Kd.R_slice hr6; rw [List.length_append, List.length_map, List.length_singleton] at e6; subst e6; have hs6 := (hb6.block _ (by omega)).trans HS.out; have hcw6 : w6.cell? ⟨w.heap.size + 1, 1, none⟩ = some v := (blk_cell hs6 1).trans rfl; have hfw6 := blk_frozen hs6 1; clear hr6 hb6 hg6 hs6; refine hK _ _ ?_
        clear hK K
        refine wpAnyIn_ready (rs := [6]) (by kernel_rfl) (by simp) ?_
        refine AllReadyIn.cons rfl (fun K hK => ?_) ?_
        ·go_simp
         refine hK _ _ ?_
         clear hK K
         refine wpAnyIn_ready (rs := [7]) (by kernel_rfl) (by simp) ?_
         refine AllReadyIn.cons rfl (fun K hK => ?_) ?_
         ·go_simp
          refine hK _ _ ?_
          clear hK K
          refine wpAnyIn_done (by kernel_rfl) ?_ _
          exact END_.out
         exact AllReadyIn.nil
        exact AllReadyIn.nil
       exact AllReadyIn.nil
      exact AllReadyIn.nil
     exact AllReadyIn.nil
    refine AllReadyIn.cons rfl (fun K hK => ?_) ?_
    ·go_simp
     refine ⟨trivial, ?_⟩; refine (CallsIn.inRound l (callsIn_wide.2 (disk_cut.clone (ad.add xi) k k _ _ hCl hk2 HC.out))).mono ?_; rintro e w5 ⟨v5, rfl, hv5, hb5⟩; obtain ⟨A5, c5, rfl⟩ := Kd.R_slice hv5; have hs5 := (hb5.block _ hlt1).trans HS.out; have hcv5 : w5.cell? ⟨w.heap.size + 1, 1, none⟩ = some v := (blk_cell hs5 1).trans rfl; have hcv6 : (w5.alloc (.cells #[.slice A5 ((l1.drop xi).take m).length c5] 22)).cell? ⟨w.heap.size + 1, 1, none⟩ = some v := (blk_cell (blk_alloc hs5 _) 1).trans rfl; have HV5 := Aside0.mk hv5; have HB5 := Aside0.mk hb5; clear hv5 hb5; rw [hCl] at hcv6 HV5 ⊢; refine hK _ _ ?_
     clear hK K
     refine wpAnyIn_ready (rs := [1, 4]) (by kernel_rfl) (by simp) ?_
     refine AllReadyIn.cons rfl (fun K hK => ?_) ?_
     ·go_simp
      refine hK _ _ ?_
      clear hK K
      refine wpAnyIn_ready (rs := [4]) (by kernel_rfl) (by simp) ?_
      refine AllReadyIn.cons rfl (fun K hK => ?_) ?_
      ·go_simp
       refine hK _ _ ?_
       clear hK K
       refine wpAnyIn_ready (rs := [5]) (by kernel_rfl) (by simp) ?_
       refine AllReadyIn.cons rfl (fun K hK => ?_) ?_
       ·refine disk_cut.step_append (Kd.slice 5 (Kd.int .u8)) (w0 := W) (W := w5) (w.heap.size + 4) rfl (.tmp 15) (.tmp 18) 28 22 (.slice none 0 0) 24 rfl Try.underlying28 disk_cut.info_sl rfl (by decide) (by omega) v (pre.map fun x => (l1.drop x.1).take m) ((l1.drop xi).take m) [.slice A5 k c5] (fun _ => True) (fun q => W.heap.size ≤ q) rfl rfl (disk_cut.pieceM HV5.out (Nat.le_trans hB4 (Nat.le_refl W.heap.size))) (fun q hq => ⟨trivial, fun e => by have := Kd.R_lt HR.out q e.symm; omega⟩) (fun _ _ => trivial) (Kd.R_below (Kd.R_drew HR.out) HB5.out) ((Below.refl (w.heap.size + 4) W).drew.trans (HB5.out.mono hB4)) (Nat.le_trans hB4 HB5.out.size) (by rw [List.length_map]; omega) ?_; intro v6 w6 hr6 hb6 hg6; have END_ := Aside0.mk (disk_cut.round_end l1 m pre ⟨xi, hxi⟩ HR.out HB5.out hg6 hr6 hb6 H0.out HS.out HBW.out H2.out H3.out hB4 hS0); obtain ⟨A6, c6, e6⟩ := Kd.R_slice hr6; rw [List.length_append, List.length_map, List.length_singleton] at e6; subst e6; have hs6 := (hb6.block _ (by omega)).trans HS.out; have hcw6 : w6.cell? ⟨w.heap.size + 1, 1, none⟩ = some v := (blk_cell hs6 1).trans rfl; have hfw6 := blk_frozen hs6 1; clear hr6 hb6 hg6 hs6; refine hK _ _ ?_
        clear hK K
        refine wpAnyIn_ready (rs := [6]) (by kernel_rfl) (by simp) ?_
        refine AllReadyIn.cons rfl (fun K hK => ?_) ?_
        ·go_simp
         refine hK _ _ ?_
         clear hK K
         refine wpAnyIn_ready (rs := [7]) (by kernel_rfl) (by simp) ?_
         refine AllReadyIn.cons rfl (fun K hK => ?_) ?_
         ·go_simp
          refine hK _ _ ?_
          clear hK K
          refine wpAnyIn_done (by kernel_rfl) ?_ _
          exact END_.out
         exact AllReadyIn.nil
        exact AllReadyIn.nil
       exact AllReadyIn.nil
      exact AllReadyIn.nil
     refine AllReadyIn.cons rfl (fun K hK => ?_) ?_
     ·go_simp
      refine hK _ _ ?_
      clear hK K
      refine wpAnyIn_ready (rs := [1]) (by kernel_rfl) (by simp) ?_
      refine AllReadyIn.cons rfl (fun K hK => ?_) ?_
      ·go_simp
       refine hK _ _ ?_
       clear hK K
       refine wpAnyIn_ready (rs := [5]) (by kernel_rfl) (by simp) ?_
       refine AllReadyIn.cons rfl (fun K hK => ?_) ?_
       ·refine disk_cut.step_append (Kd.slice 5 (Kd.int .u8)) (w0 := W) (W := w5) (w.heap.size + 4) rfl (.tmp 15) (.tmp 18) 28 22 (.slice none 0 0) 24 rfl Try.underlying28 disk_cut.info_sl rfl (by decide) (by omega) v (pre.map fun x => (l1.drop x.1).take m) ((l1.drop xi).take m) [.slice A5 k c5] (fun _ => True) (fun q => W.heap.size ≤ q) rfl rfl (disk_cut.pieceM HV5.out (Nat.le_trans hB4 (Nat.le_refl W.heap.size))) (fun q hq => ⟨trivial, fun e => by have := Kd.R_lt HR.out q e.symm; omega⟩) (fun _ _ => trivial) (Kd.R_below (Kd.R_drew HR.out) HB5.out) ((Below.refl (w.heap.size + 4) W).drew.trans (HB5.out.mono hB4)) (Nat.le_trans hB4 HB5.out.size) (by rw [List.length_map]; omega) ?_; intro v6 w6 hr6 hb6 hg6; have END_ := Aside0.mk (disk_cut.round_end l1 m pre ⟨xi, hxi⟩ HR.out HB5.out hg6 hr6 hb6 H0.out HS.out HBW.out H2.out H3.out hB4 hS0); obtain ⟨A6, c6, e6⟩ := Kd.R_slice hr6; rw [List.length_append, List.length_map, List.length_singleton] at e6; subst e6; have hs6 := (hb6.block _ (by omega)).trans HS.out; have hcw6 : w6.cell? ⟨w.heap.size + 1, 1, none⟩ = some v := (blk_cell hs6 1).trans rfl; have hfw6 := blk_frozen hs6 1; clear hr6 hb6 hg6 hs6; refine hK _ _ ?_
        clear hK K
        refine wpAnyIn_ready (rs := [6]) (by kernel_rfl) (by simp) ?_
        refine AllReadyIn.cons rfl (fun K hK => ?_) ?_
        ·go_simp
         refine hK _ _ ?_
         clear hK K
         refine wpAnyIn_ready (rs := [7]) (by kernel_rfl) (by simp) ?_
         refine AllReadyIn.cons rfl (fun K hK => ?_) ?_
         ·go_simp
          refine hK _ _ ?_
          clear hK K
          refine wpAnyIn_done (by kernel_rfl) ?_ _
          exact END_.out
         exact AllReadyIn.nil
        exact AllReadyIn.nil
       exact AllReadyIn.nil
      exact AllReadyIn.nil
     exact AllReadyIn.nil
    exact AllReadyIn.nil
   exact AllReadyIn.nil
  refine AllReadyIn.cons rfl (fun K hK => ?_) ?_
  ·go_simp
   refine hK _ _ ?_
   clear hK K
   refine wpAnyIn_ready (rs := [0, 3]) (by kernel_rfl) (by simp) ?_
   refine AllReadyIn.cons rfl (fun K hK => ?_) ?_
   ·go_simp
    refine hK _ _ ?_
    clear hK K
    refine wpAnyIn_ready (rs := [1, 3]) (by kernel_rfl) (by simp) ?_
    refine AllReadyIn.cons rfl (fun K hK => ?_) ?_
    ·go_simp
     refine hK _ _ ?_
     clear hK K
     refine wpAnyIn_ready (rs := [3]) (by kernel_rfl) (by simp) ?_
     refine AllReadyIn.cons rfl (fun K hK => ?_) ?_
     ·go_simp
      refine ⟨trivial, ?_⟩; refine (CallsIn.inRound l (callsIn_wide.2 (disk_cut.clone (ad.add xi) k k _ _ hCl hk2 HC.out))).mono ?_; rintro e w5 ⟨v5, rfl, hv5, hb5⟩; obtain ⟨A5, c5, rfl⟩ := Kd.R_slice hv5; have hs5 := (hb5.block _ hlt1).trans HS.out; have hcv5 : w5.cell? ⟨w.heap.size + 1, 1, none⟩ = some v := (blk_cell hs5 1).trans rfl; have hcv6 : (w5.alloc (.cells #[.slice A5 ((l1.drop xi).take m).length c5] 22)).cell? ⟨w.heap.size + 1, 1, none⟩ = some v := (blk_cell (blk_alloc hs5 _) 1).trans rfl; have HV5 := Aside0.mk hv5; have HB5 := Aside0.mk hb5; clear hv5 hb5; rw [hCl] at hcv6 HV5 ⊢; refine hK _ _ ?_
      clear hK K
      refine wpAnyIn_ready (rs := [4]) (by kernel_rfl) (by simp) ?_
      refine AllReadyIn.cons rfl (fun K hK => ?_) ?_
      ·go_simp
       refine hK _ _ ?_
       clear hK K
       refine wpAnyIn_ready (rs := [5]) (by kernel_rfl) (by simp) ?_
       refine AllReadyIn.cons rfl (fun K hK => ?_) ?_
       ·refine disk_cut.step_append (Kd.slice 5 (Kd.int .u8)) (w0 := W) (W := w5) (w.heap.size + 4) rfl (.tmp 15) (.tmp 18) 28 22 (.slice none 0 0) 24 rfl Try.underlying28 disk_cut.info_sl rfl (by decide) (by omega) v (pre.map fun x => (l1.drop x.1).take m) ((l1.drop xi).take m) [.slice A5 k c5] (fun _ => True) (fun q => W.heap.size ≤ q) rfl rfl (disk_cut.pieceM HV5.out (Nat.le_trans hB4 (Nat.le_refl W.heap.size))) (fun q hq => ⟨trivial, fun e => by have := Kd.R_lt HR.out q e.symm; omega⟩) (fun _ _ => trivial) (Kd.R_below (Kd.R_drew HR.out) HB5.out) ((Below.refl (w.heap.size + 4) W).drew.trans (HB5.out.mono hB4)) (Nat.le_trans hB4 HB5.out.size) (by rw [List.length_map]; omega) ?_; intro v6 w6 hr6 hb6 hg6; have END_ := Aside0.mk (disk_cut.round_end l1 m pre ⟨xi, hxi⟩ HR.out HB5.out hg6 hr6 hb6 H0.out HS.out HBW.out H2.out H3.out hB4 hS0); obtain ⟨A6, c6, e6⟩ := Kd.R_slice hr6; rw [List.length_append, List.length_map, List.length_singleton] at e6; subst e6; have hs6 := (hb6.block _ (by omega)).trans HS.out; have hcw6 : w6.cell? ⟨w.heap.size + 1, 1, none⟩ = some v := (blk_cell hs6 1).trans rfl; have hfw6 := blk_frozen hs6 1; clear hr6 hb6 hg6 hs6; refine hK _ _ ?_
        clear hK K
        refine wpAnyIn_ready (rs := [6]) (by kernel_rfl) (by simp) ?_
        refine AllReadyIn.cons rfl (fun K hK => ?_) ?_
        ·go_simp
         refine hK _ _ ?_
         clear hK K
         refine wpAnyIn_ready (rs := [7]) (by kernel_rfl) (by simp) ?_
         refine AllReadyIn.cons rfl (fun K hK => ?_) ?_
         ·go_simp
          refine hK _ _ ?_
          clear hK K
          refine wpAnyIn_done (by kernel_rfl) ?_ _
          exact END_.out
         exact AllReadyIn.nil
        exact AllReadyIn.nil
       exact AllReadyIn.nil
      exact AllReadyIn.nil
     exact AllReadyIn.nil
    refine AllReadyIn.cons rfl (fun K hK => ?_) ?_
    ·go_simp
     refine ⟨trivial, ?_⟩; refine (CallsIn.inRound l (callsIn_wide.2 (disk_cut.clone (ad.add xi) k k _ _ hCl hk2 HC.out))).mono ?_; rintro e w5 ⟨v5, rfl, hv5, hb5⟩; obtain ⟨A5, c5, rfl⟩ := Kd.R_slice hv5; have hs5 := (hb5.block _ hlt1).trans HS.out; have hcv5 : w5.cell? ⟨w.heap.size + 1, 1, none⟩ = some v := (blk_cell hs5 1).trans rfl; have hcv6 : (w5.alloc (.cells #[.slice A5 ((l1.drop xi).take m).length c5] 22)).cell? ⟨w.heap.size + 1, 1, none⟩ = some v := (blk_cell (blk_alloc hs5 _) 1).trans rfl; have HV5 := Aside0.mk hv5; have HB5 := Aside0.mk hb5; clear hv5 hb5; rw [hCl] at hcv6 HV5 ⊢; refine hK _ _ ?_
     clear hK K
     refine wpAnyIn_ready (rs := [1, 4]) (by kernel_rfl) (by simp) ?_
     refine AllReadyIn.cons rfl (fun K hK => ?_) ?_
     ·go_simp
      refine hK _ _ ?_
      clear hK K
      refine wpAnyIn_ready (rs := [4]) (by kernel_rfl) (by simp) ?_
      refine AllReadyIn.cons rfl (fun K hK => ?_) ?_
      ·go_simp
       refine hK _ _ ?_
       clear hK K
       refine wpAnyIn_ready (rs := [5]) (by kernel_rfl) (by simp) ?_
       refine AllReadyIn.cons rfl (fun K hK => ?_) ?_
       ·refine disk_cut.step_append (Kd.slice 5 (Kd.int .u8)) (w0 := W) (W := w5) (w.heap.size + 4) rfl (.tmp 15) (.tmp 18) 28 22 (.slice none 0 0) 24 rfl Try.underlying28 disk_cut.info_sl rfl (by decide) (by omega) v (pre.map fun x => (l1.drop x.1).take m) ((l1.drop xi).take m) [.slice A5 k c5] (fun _ => True) (fun q => W.heap.size ≤ q) rfl rfl (disk_cut.pieceM HV5.out (Nat.le_trans hB4 (Nat.le_refl W.heap.size))) (fun q hq => ⟨trivial, fun e => by have := Kd.R_lt HR.out q e.symm; omega⟩) (fun _ _ => trivial) (Kd.R_below (Kd.R_drew HR.out) HB5.out) ((Below.refl (w.heap.size + 4) W).drew.trans (HB5.out.mono hB4)) (Nat.le_trans hB4 HB5.out.size) (by rw [List.length_map]; omega) ?_; intro v6 w6 hr6 hb6 hg6; have END_ := Aside0.mk (disk_cut.round_end l1 m pre ⟨xi, hxi⟩ HR.out HB5.out hg6 hr6 hb6 H0.out HS.out HBW.out H2.out H3.out hB4 hS0); obtain ⟨A6, c6, e6⟩ := Kd.R_slice hr6; rw [List.length_append, List.length_map, List.length_singleton] at e6; subst e6; have hs6 := (hb6.block _ (by omega)).trans HS.out; have hcw6 : w6.cell? ⟨w.heap.size + 1, 1, none⟩ = some v := (blk_cell hs6 1).trans rfl; have hfw6 := blk_frozen hs6 1; clear hr6 hb6 hg6 hs6; refine hK _ _ ?_
        clear hK K
        refine wpAnyIn_ready (rs := [6]) (by kernel_rfl) (by simp) ?_
        refine AllReadyIn.cons rfl (fun K hK => ?_) ?_
        ·go_simp
         refine hK _ _ ?_
         clear hK K
         refine wpAnyIn_ready (rs := [7]) (by kernel_rfl) (by simp) ?_
         refine AllReadyIn.cons rfl (fun K hK => ?_) ?_
         ·go_simp
          refine hK _ _ ?_
          clear hK K
          refine wpAnyIn_done (by kernel_rfl) ?_ _
          exact END_.out
         exact AllReadyIn.nil
        exact AllReadyIn.nil
       exact AllReadyIn.nil
      exact AllReadyIn.nil
     refine AllReadyIn.cons rfl (fun K hK => ?_) ?_
     ·go_simp
      refine hK _ _ ?_
      clear hK K
      refine wpAnyIn_ready (rs := [1]) (by kernel_rfl) (by simp) ?_
      refine AllReadyIn.cons rfl (fun K hK => ?_) ?_
      ·go_simp
       refine hK _ _ ?_
       clear hK K
       refine wpAnyIn_ready (rs := [5]) (by kernel_rfl) (by simp) ?_
       refine AllReadyIn.cons rfl (fun K hK => ?_) ?_
       ·refine disk_cut.step_append (Kd.slice 5 (Kd.int .u8)) (w0 := W) (W := w5) (w.heap.size + 4) rfl (.tmp 15) (.tmp 18) 28 22 (.slice none 0 0) 24 rfl Try.underlying28 disk_cut.info_sl rfl (by decide) (by omega) v (pre.map fun x => (l1.drop x.1).take m) ((l1.drop xi).take m) [.slice A5 k c5] (fun _ => True) (fun q => W.heap.size ≤ q) rfl rfl (disk_cut.pieceM HV5.out (Nat.le_trans hB4 (Nat.le_refl W.heap.size))) (fun q hq => ⟨trivial, fun e => by have := Kd.R_lt HR.out q e.symm; omega⟩) (fun _ _ => trivial) (Kd.R_below (Kd.R_drew HR.out) HB5.out) ((Below.refl (w.heap.size + 4) W).drew.trans (HB5.out.mono hB4)) (Nat.le_trans hB4 HB5.out.size) (by rw [List.length_map]; omega) ?_; intro v6 w6 hr6 hb6 hg6; have END_ := Aside0.mk (disk_cut.round_end l1 m pre ⟨xi, hxi⟩ HR.out HB5.out hg6 hr6 hb6 H0.out HS.out HBW.out H2.out H3.out hB4 hS0); obtain ⟨A6, c6, e6⟩ := Kd.R_slice hr6; rw [List.length_append, List.length_map, List.length_singleton] at e6; subst e6; have hs6 := (hb6.block _ (by omega)).trans HS.out; have hcw6 : w6.cell? ⟨w.heap.size + 1, 1, none⟩ = some v := (blk_cell hs6 1).trans rfl; have hfw6 := blk_frozen hs6 1; clear hr6 hb6 hg6 hs6; refine hK _ _ ?_
        clear hK K
        refine wpAnyIn_ready (rs := [6]) (by kernel_rfl) (by simp) ?_
        refine AllReadyIn.cons rfl (fun K hK => ?_) ?_
        ·go_simp
         refine hK _ _ ?_
         clear hK K
         refine wpAnyIn_ready (rs := [7]) (by kernel_rfl) (by simp) ?_
         refine AllReadyIn.cons rfl (fun K hK => ?_) ?_
         ·go_simp
          refine hK _ _ ?_
          clear hK K
          refine wpAnyIn_done (by kernel_rfl) ?_ _
          exact END_.out
         exact AllReadyIn.nil
        exact AllReadyIn.nil
       exact AllReadyIn.nil
      exact AllReadyIn.nil
     exact AllReadyIn.nil
    exact AllReadyIn.nil
   refine AllReadyIn.cons rfl (fun K hK => ?_) ?_
   ·go_simp
    refine ⟨trivial, ?_⟩; refine (CallsIn.inRound l (callsIn_wide.2 (disk_cut.clone (ad.add xi) k k _ _ hCl hk2 HC.out))).mono ?_; rintro e w5 ⟨v5, rfl, hv5, hb5⟩; obtain ⟨A5, c5, rfl⟩ := Kd.R_slice hv5; have hs5 := (hb5.block _ hlt1).trans HS.out; have hcv5 : w5.cell? ⟨w.heap.size + 1, 1, none⟩ = some v := (blk_cell hs5 1).trans rfl; have hcv6 : (w5.alloc (.cells #[.slice A5 ((l1.drop xi).take m).length c5] 22)).cell? ⟨w.heap.size + 1, 1, none⟩ = some v := (blk_cell (blk_alloc hs5 _) 1).trans rfl; have HV5 := Aside0.mk hv5; have HB5 := Aside0.mk hb5; clear hv5 hb5; rw [hCl] at hcv6 HV5 ⊢; refine hK _ _ ?_
    clear hK K
    refine wpAnyIn_ready (rs := [0, 4]) (by kernel_rfl) (by simp) ?_
    refine AllReadyIn.cons rfl (fun K hK => ?_) ?_
    ·go_simp
     refine hK _ _ ?_
     clear hK K
     refine wpAnyIn_ready (rs := [1, 4]) (by kernel_rfl) (by simp) ?_
     refine AllReadyIn.cons rfl (fun K hK => ?_) ?_
     ·go_simp
      refine hK _ _ ?_
      clear hK K
      refine wpAnyIn_ready (rs := [4]) (by kernel_rfl) (by simp) ?_
      refine AllReadyIn.cons rfl (fun K hK => ?_) ?_
      ·go_simp
       refine hK _ _ ?_
       clear hK K
       refine wpAnyIn_ready (rs := [5]) (by kernel_rfl) (by simp) ?_
       refine AllReadyIn.cons rfl (fun K hK => ?_) ?_
       ·refine disk_cut.step_append (Kd.slice 5 (Kd.int .u8)) (w0 := W) (W := w5) (w.heap.size + 4) rfl (.tmp 15) (.tmp 18) 28 22 (.slice none 0 0) 24 rfl Try.underlying28 disk_cut.info_sl rfl (by decide) (by omega) v (pre.map fun x => (l1.drop x.1).take m) ((l1.drop xi).take m) [.slice A5 k c5] (fun _ => True) (fun q => W.heap.size ≤ q) rfl rfl (disk_cut.pieceM HV5.out (Nat.le_trans hB4 (Nat.le_refl W.heap.size))) (fun q hq => ⟨trivial, fun e => by have := Kd.R_lt HR.out q e.symm; omega⟩) (fun _ _ => trivial) (Kd.R_below (Kd.R_drew HR.out) HB5.out) ((Below.refl (w.heap.size + 4) W).drew.trans (HB5.out.mono hB4)) (Nat.le_trans hB4 HB5.out.size) (by rw [List.length_map]; omega) ?_; intro v6 w6 hr6 hb6 hg6; have END_ := Aside0.mk (disk_cut.round_end l1 m pre ⟨xi, hxi⟩ HR.out HB5.out hg6 hr6 hb6 H0.out HS.out HBW.out H2.out H3.out hB4 hS0); obtain ⟨A6, c6, e6⟩ := Kd.R_slice hr6; rw [List.length_append, List.length_map, List.length_singleton] at e6; subst e6; have hs6 := (hb6.block _ (by omega)).trans HS.out; have hcw6 : w6.cell? ⟨w.heap.size + 1, 1, none⟩ = some v := (blk_cell hs6 1).trans rfl; have hfw6 := blk_frozen hs6 1; clear hr6 hb6 hg6 hs6; refine hK _ _ ?_
        clear hK K
        refine wpAnyIn_ready (rs := [6]) (by kernel_rfl) (by simp) ?_
        refine AllReadyIn.cons rfl (fun K hK => ?_) ?_
        ·go_simp
         refine hK _ _ ?_
         clear hK K
         refine wpAnyIn_ready (rs := [7]) (by kernel_rfl) (by simp) ?_
         refine AllReadyIn.cons rfl (fun K hK => ?_) ?_
         ·go_simp
          refine hK _ _ ?_
          clear hK K
          refine wpAnyIn_done (by kernel_rfl) ?_ _
          exact END_.out
         exact AllReadyIn.nil
        exact AllReadyIn.nil
       exact AllReadyIn.nil
      exact AllReadyIn.nil
     refine AllReadyIn.cons rfl (fun K hK => ?_) ?_
     ·go_simp
      refine hK _ _ ?_
      clear hK K
      refine wpAnyIn_ready (rs := [1]) (by kernel_rfl) (by simp) ?_
      refine AllReadyIn.cons rfl (fun K hK => ?_) ?_
      ·go_simp
       refine hK _ _ ?_
       clear hK K
       refine wpAnyIn_ready (rs := [5]) (by kernel_rfl) (by simp) ?_
       refine AllReadyIn.cons rfl (fun K hK => ?_) ?_
       ·refine disk_cut.step_append (Kd.slice 5 (Kd.int .u8)) (w0 := W) (W := w5) (w.heap.size + 4) rfl (.tmp 15) (.tmp 18) 28 22 (.slice none 0 0) 24 rfl Try.underlying28 disk_cut.info_sl rfl (by decide) (by omega) v (pre.map fun x => (l1.drop x.1).take m) ((l1.drop xi).take m) [.slice A5 k c5] (fun _ => True) (fun q => W.heap.size ≤ q) rfl rfl (disk_cut.pieceM HV5.out (Nat.le_trans hB4 (Nat.le_refl W.heap.size))) (fun q hq => ⟨trivial, fun e => by have := Kd.R_lt HR.out q e.symm; omega⟩) (fun _ _ => trivial) (Kd.R_below (Kd.R_drew HR.out) HB5.out) ((Below.refl (w.heap.size + 4) W).drew.trans (HB5.out.mono hB4)) (Nat.le_trans hB4 HB5.out.size) (by rw [List.length_map]; omega) ?_; intro v6 w6 hr6 hb6 hg6; have END_ := Aside0.mk (disk_cut.round_end l1 m pre ⟨xi, hxi⟩ HR.out HB5.out hg6 hr6 hb6 H0.out HS.out HBW.out H2.out H3.out hB4 hS0); obtain ⟨A6, c6, e6⟩ := Kd.R_slice hr6; rw [List.length_append, List.length_map, List.length_singleton] at e6; subst e6; have hs6 := (hb6.block _ (by omega)).trans HS.out; have hcw6 : w6.cell? ⟨w.heap.size + 1, 1, none⟩ = some v := (blk_cell hs6 1).trans rfl; have hfw6 := blk_frozen hs6 1; clear hr6 hb6 hg6 hs6; refine hK _ _ ?_
        clear hK K
        refine wpAnyIn_ready (rs := [6]) (by kernel_rfl) (by simp) ?_
        refine AllReadyIn.cons rfl (fun K hK => ?_) ?_
        ·go_simp
         refine hK _ _ ?_
         clear hK K
         refine wpAnyIn_ready (rs := [7]) (by kernel_rfl) (by simp) ?_
         refine AllReadyIn.cons rfl (fun K hK => ?_) ?_
         ·go_simp
          refine hK _ _ ?_
          clear hK K
          refine wpAnyIn_done (by kernel_rfl) ?_ _
          exact END_.out
         exact AllReadyIn.nil
        exact AllReadyIn.nil
       exact AllReadyIn.nil
      exact AllReadyIn.nil
     exact AllReadyIn.nil
    refine AllReadyIn.cons rfl (fun K hK => ?_) ?_
    ·go_simp
     refine hK _ _ ?_
     clear hK K
     refine wpAnyIn_ready (rs := [0]) (by kernel_rfl) (by simp) ?_
     refine AllReadyIn.cons rfl (fun K hK => ?_) ?_
     ·go_simp
      refine hK _ _ ?_
      clear hK K
      refine wpAnyIn_ready (rs := [1]) (by kernel_rfl) (by simp) ?_
      refine AllReadyIn.cons rfl (fun K hK => ?_) ?_
      ·go_simp
       refine hK _ _ ?_
       clear hK K
       refine wpAnyIn_ready (rs := [5]) (by kernel_rfl) (by simp) ?_
       refine AllReadyIn.cons rfl (fun K hK => ?_) ?_
       ·refine disk_cut.step_append (Kd.slice 5 (Kd.int .u8)) (w0 := W) (W := w5) (w.heap.size + 4) rfl (.tmp 15) (.tmp 18) 28 22 (.slice none 0 0) 24 rfl Try.underlying28 disk_cut.info_sl rfl (by decide) (by omega) v (pre.map fun x => (l1.drop x.1).take m) ((l1.drop xi).take m) [.slice A5 k c5] (fun _ => True) (fun q => W.heap.size ≤ q) rfl rfl (disk_cut.pieceM HV5.out (Nat.le_trans hB4 (Nat.le_refl W.heap.size))) (fun q hq => ⟨trivial, fun e => by have := Kd.R_lt HR.out q e.symm; omega⟩) (fun _ _ => trivial) (Kd.R_below (Kd.R_drew HR.out) HB5.out) ((Below.refl (w.heap.size + 4) W).drew.trans (HB5.out.mono hB4)) (Nat.le_trans hB4 HB5.out.size) (by rw [List.length_map]; omega) ?_; intro v6 w6 hr6 hb6 hg6; have END_ := Aside0.mk (disk_cut.round_end l1 m pre ⟨xi, hxi⟩ HR.out HB5.out hg6 hr6 hb6 H0.out HS.out HBW.out H2.out H3.out hB4 hS0); obtain ⟨A6, c6, e6⟩ := Kd.R_slice hr6; rw [List.length_append, List.length_map, List.length_singleton] at e6; subst e6; have hs6 := (hb6.block _ (by omega)).trans HS.out; have hcw6 : w6.cell? ⟨w.heap.size + 1, 1, none⟩ = some v := (blk_cell hs6 1).trans rfl; have hfw6 := blk_frozen hs6 1; clear hr6 hb6 hg6 hs6; refine hK _ _ ?_
        clear hK K
        refine wpAnyIn_ready (rs := [6]) (by kernel_rfl) (by simp) ?_
        refine AllReadyIn.cons rfl (fun K hK => ?_) ?_
        ·go_simp
         refine hK _ _ ?_
         clear hK K
         refine wpAnyIn_ready (rs := [7]) (by kernel_rfl) (by simp) ?_
         refine AllReadyIn.cons rfl (fun K hK => ?_) ?_
         ·go_simp
          refine hK _ _ ?_
          clear hK K
          refine wpAnyIn_done (by kernel_rfl) ?_ _
          exact END_.out
         exact AllReadyIn.nil
        exact AllReadyIn.nil
       exact AllReadyIn.nil
      exact AllReadyIn.nil
     exact AllReadyIn.nil
    exact AllReadyIn.nil
   exact AllReadyIn.nil
  exact AllReadyIn.nil
 case done =>
  rintro D ys W hD hys ⟨v, h0, hs, hR, hB, hb2, hb3⟩ hK
  obtain ⟨Av, cv, ev⟩ := Kd.R_slice hR
  rw [List.length_map] at ev
  subst ev
  have FIN := Aside0.mk (disk_cut.fin (a0 := a0) l1 m ys hys hR h0 hB (by omega) hK)
  have hcs : W.cell? ⟨w.heap.size + 1, 0, none⟩ = some (.int .u8 a0) := (blk_cell hs 0).trans rfl
  have hcv : W.cell? ⟨w.heap.size + 1, 1, none⟩ = some _ := (blk_cell hs 1).trans rfl
  have hz0 : W.cell? ⟨w.heap.size, 0, none⟩ = some (.int .u8 0) := (blk_cell h0 0).trans rfl
  have hz1 : W.cell? ⟨w.heap.size, 1, none⟩ = some (.slice none 0 0) := (blk_cell h0 1).trans rfl
  have hf0 := blk_frozen h0 0
  have hf1 := blk_frozen h0 1
  gi_wp2
  obtain ⟨f1, f2, f3, f4⟩ := FIN.out
  exact ⟨by simp, .inl ⟨_, _, rfl, run_takeDeferred f1, _, results_cell_row rfl _ _ w.heap.size 30 #[.int .u8 a0, .slice Av ys.length cv] (0, 0) _ rfl f2 Try.underlying30 rfl (by kernel_rfl), _, rfl, f3, f4⟩⟩
 case stop =>
  rintro D c pre W _ _ h _
  exact h.elim
theorem disk_cut.calls (a0 : Int) (A1 : Option Addr) (c1 : Nat) (l1 : List Int) (r1 : Int) (r2 : List (List Int)) (w : World) (hr1 : Kd.C (Kd.int .u8) w A1 l1.length l1) (hc1 : l1.length ≤ c1) (h : disk_cut.f a0 l1 = some (r1, r2)) :
  Calls Try.prog 31 #[.int .u8 a0, .slice A1 l1.length c1] w fun e w' => ∃ v1_ : Value, e = .returned (.agg #[.int .u8 r1, v1_]) ∧ Kd.V (Kd.slice 5 (Kd.int .u8)) 22 w' w.heap.size (fun k_ => (w.heap.size ≤ k_)) v1_ r2 ∧ Below w.heap.size w w' := by
 unfold disk_cut.f at h
 by_cases hl : l1.length ≤ 1099511627776
 ·rw [if_pos hl] at h
  obtain ⟨rfl, rfl⟩ := Prod.mk.inj (Option.some.inj h)
  exact callsIn_wide.1 (disk_cut.cut_in 4 (Nat.le_refl _) a0 A1 c1 l1 _ rfl w hr1 hc1 hl)
 ·rw [if_neg hl] at h
  cases h
end

end Go.Proofs.Ythnfmoaiejaheaa.PDiskRefuses
