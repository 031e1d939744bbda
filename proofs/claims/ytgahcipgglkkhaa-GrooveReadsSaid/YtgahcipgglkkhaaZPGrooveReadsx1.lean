-- made by a program of this repo (wip/patch_print.py); not trusted: Lean checks it
import Derived.Test.YtgahcipgglkkhaaZPGrooveReadsx0
-- squeezed
namespace Go.Proofs.Ytgahcipgglkkhaa.PGrooveReads
open Go.RowKit Go.Proofs.YtgahcipgglkkhaaW.PrintWords Go.Proofs.YtgahcipgglkkhaaW.PrintLast Go.Proofs.YtgahcipgglkkhaaW.PrintMore
attribute [local go_sem] max2_int min2_int max_two min_two max_three min_three max_four min_four   -- for this text's walks alone
set_option linter.unusedVariables false
set_option linter.unusedSimpArgs false

-- NOT PRINTED: function 40 (block_Block_40)

/-! ### block_Block_32: function 32, by hand -/
def block_Block_32.f (l0 : List (List (S53))) : Option (List (S53)) := if (l0.map List.length).sum ≤ 4398046511104 ∧ l0.length ≤ 4398046511104 then some l0.flatten else none
theorem block_Block_32.getD_take {α : Type} (l : List (List α)) (i : Nat) (h : i < l.length) : l.take (i + 1) = l.take i ++ [l.getD i []] := by
 rw [List.take_succ_eq_append_getElem h, List.getD_eq_getElem?_getD, List.getElem?_eq_getElem h]; rfl
theorem block_Block_32.sum_take {α : Type} (l : List (List α)) (i : Nat) (h : i < l.length) : ((l.take (i + 1)).map List.length).sum = ((l.take i).map List.length).sum + (l.getD i []).length := by
 rw [block_Block_32.getD_take l i h]; simp
theorem block_Block_32.sum_le {α : Type} (l : List (List α)) (i : Nat) : ((l.take i).map List.length).sum ≤ (l.map List.length).sum := by
 have h : (l.map List.length).sum = ((l.take i).map List.length).sum + ((l.drop i).map List.length).sum := by rw [← List.sum_append, ← List.map_append, List.take_append_drop]
 omega
theorem block_Block_32.flat_take {α : Type} (l : List (List α)) (i : Nat) (h : i < l.length) : (l.take (i + 1)).flatten = (l.take i).flatten ++ l.getD i [] := by
 rw [block_Block_32.getD_take l i h]; simp
theorem block_Block_32.flat_len {α : Type} (l : List (List α)) : l.flatten.length = (l.map List.length).sum := by simp
set_option maxHeartbeats 4000000 in
theorem block_Block_32.grow (n : Int) (w : World) (h0 : 0 ≤ n) (hl : n ≤ 4398046511104) :
  Calls Try.prog 40 #[.slice none 0 0, .int .i64 n] w fun e w' => ∃ v, e = .returned v ∧ Kd.N k53 53 w' w.heap.size (fun k => w.heap.size ≤ k) v [] ∧ Below w.heap.size w w' := by
 by_cases hn : n = 0
 ·subst hn
  go_enter Try.func40, Try.ntmps40
  go_wp2
  go_ret
  exact ⟨_, rfl, Kd.N_nil _ _ _ _ _, Below.refl _ _⟩
 ·have t1 : decide (n < 0) = false := decide_eq_false (by omega)
  have t2 : decide (0 < n) = true := decide_eq_true (by omega)
  have HN := Aside0.mk (show 0 < n by omega)
  clear hn
  go_enter Try.func40, Try.ntmps40
  go_wp2_with ((with_reducible refine gate_dst (N := 22) rfl ?_); (try (refine gate_guard (by rfl) ?_; dsimp only)); refine Kd.N_append_zeros k53 (w0 := w) w.heap.size rfl (.tmp 20) (.tmp 21) 35 3 53 (.agg #[(.int .u8 0), (.slice none 0 0)]) 32 rfl Try.underlying35 Try.underlying3 info53 rfl (by decide) (by omega) (.slice none 0 0) [] (⟨0, []⟩ : S53) n (fun k => w.heap.size ≤ k) rfl rfl ?aZ ?aF ?aO h0 ?aB ?aS ?aL ?_; (case aZ => exact k53_mkF _ _ (⟨0, []⟩ : S53) (Nat.le_refl _) (Kd.F_nil _ _ _)); (case aF => exact fun k hk => hk); (case aO => exact Kd.N_nil _ _ _ _ _); (case aB => exact Below.refl _ _); (case aS => exact Nat.le_refl _); (case aL => simp; omega); intro v1 w1 ho hb hg hat; have HO := Aside0.mk ho; have HB := Aside0.mk hb; clear ho hb hg hat; obtain ⟨A1, c1, e1⟩ := Kd.N_slice HO.out; subst e1; have q1 : (List.replicate n.toNat (⟨0, []⟩ : S53)).length = n.toNat := List.length_replicate)
  go_ret
  exact ⟨_, rfl, Kd.N_take HO.out (m := 0) (Nat.zero_le _), HB.out⟩
set_option maxHeartbeats 8000000 in
set_option maxRecDepth 100000 in
theorem block_Block_32.calls (P0_ : Nat → Prop) (A0 : Option Addr) (c0 : Nat) (l0 : List (List (S53))) (r : List (S53)) (w : World) (hs0 : Kd.V (Kd.slice 53 k53) 35 w w.heap.size (fun k_ => P0_ k_) (.slice A0 l0.length c0) l0) (h : block_Block_32.f l0 = some r) :
  Calls Try.prog 32 #[.slice A0 l0.length c0] w fun e w' => ∃ v0_ : Value, e = .returned (v0_) ∧ Kd.N k53 53 w' w.heap.size (fun k_ => (P0_ k_ ∨ w.heap.size ≤ k_)) v0_ r ∧ Below w.heap.size w w' := by
 unfold block_Block_32.f at h
 by_cases hs : (l0.map List.length).sum ≤ 4398046511104 ∧ l0.length ≤ 4398046511104
 ·rw [if_pos hs] at h
  obtain rfl := Option.some.inj h
  clear h
  have HS := Aside0.mk hs
  have HV := Aside0.mk (Kd.V_bound hs0)
  have HL := Aside0.mk (fun i => block_Block_32.sum_le l0 i)
  have hl0 : (l0.length : Int) ≤ 4398046511104 := by omega
  clear hs hs0
  go_enter Try.func32, Try.ntmps32
  go_wp2
  go_loopg [3, 11] l0.length (fun kq v3 v11 w' => ∃ i : Nat, v3 = .int .i64 (((l0.take i).map List.length).sum : Nat) ∧ v11 = .int .i64 (i : Int) ∧ Aside0 (i + kq = l0.length) ∧ w = w')
  case atStart => exact ⟨0, rfl, rfl, ⟨by omega⟩, rfl⟩
  case round =>
   obtain ⟨i, rfl, rfl, HI, rfl⟩ := hrel
   by_cases hi : i < l0.length
   ·obtain ⟨ad, cs, eA, hcl, hK, hcc, _⟩ := Kd.F_get (Kd.V_F HV.out) [] (i : Int) (by omega) (by omega)
    obtain ⟨A1, c1, rfl, hl1, hF1⟩ := Kd.FK_slice_open hK
    subst eA
    have hx : w.cell? (ad.add i) = some (.slice A1 (l0.getD i []).length c1) := by
     have := hcc 0 _ rfl
     simpa [Kd.slice] using this
    have hsum := block_Block_32.sum_take l0 i hi
    have hle := HL.out (i + 1)
    have hS := HS.out
    have HI2 := Aside0.mk (show (i + 1) + (gk - 1) = l0.length ∧ gk - 1 < gk by have := HI.out; omega)
    have HSUM := Aside0.mk hsum
    have hb : (((l0.take i).map List.length).sum : Int) + ((l0.getD i []).length : Int) ≤ 4398046511104 := by omega
    have hb0 : 0 ≤ (((l0.take i).map List.length).sum : Int) + ((l0.getD i []).length : Int) := by omega
    have d1 : decide ((i : Int) < (l0.length : Int)) = true := decide_eq_true (by omega)
    have d2 : decide ((((l0.take i).map List.length).sum : Int) + ((l0.getD i []).length : Int) < 0) = false := decide_eq_false (by omega)
    have p1 := eq_true (show (0 : Int) ≤ (i : Int) by omega)
    have p2 := eq_true (show (i : Int) < (l0.length : Int) by omega)
    clear hsum hle hS hcc hK hcl hF1 hl1
    generalize hg1 : ((l0.take i).map List.length).sum = sm at *
    generalize hg2 : (l0.getD i []).length = ln at *
    go_wp2
    go_roundg (gk - 1)
    case measure => have := HI2.out.2; omega
    case rel =>
     exact ⟨i + 1, by rw [HSUM.out]; first | rfl | (push_cast; rfl) | (congr 1; push_cast; omega), by first | rfl | (push_cast; rfl), ⟨HI2.out.1⟩, rfl⟩
   ·have hin : i = l0.length := by have := HI.out; omega
    subst hin
    rw [List.take_length]
    have hS := HS.out
    have d1 : decide ((l0.length : Int) < (l0.length : Int)) = false := decide_eq_false (by omega)
    have n0 : (0 : Int) ≤ ((l0.map List.length).sum : Nat) := by omega
    have HG := Aside0.mk (block_Block_32.grow (((l0.map List.length).sum : Nat) : Int) w n0 (by omega))
    have HFL := Aside0.mk (block_Block_32.flat_len l0)
    clear hi HI hS
    generalize hsm : (l0.map List.length).sum = sm at *
    go_wp2_with (go_at_call 40; refine HG.out.mono ?_; rintro e w1 ⟨v1, rfl, ho, hb⟩; have HO := Aside0.mk ho; have HB := Aside0.mk hb; clear ho hb)
    go_loopg [6, 27] l0.length (fun kq v6 v27 w' => ∃ i : Nat, v27 = .int .i64 (i : Int) ∧ Aside0 (i + kq = l0.length) ∧ Aside0 (Kd.N k53 53 w' w.heap.size (fun k_ => (P0_ k_ ∨ w.heap.size ≤ k_)) v6 (l0.take i).flatten) ∧ Aside0 (Below w.heap.size w w'))
    case atStart => exact ⟨0, rfl, ⟨by omega⟩, ⟨Kd.N_mono HO.out (fun k hk => .inr hk)⟩, HB⟩
    case round =>
     obtain ⟨i, rfl, HI, HO2, HB2⟩ := hrel
     by_cases hi : i < l0.length
     ·obtain ⟨ad, cs, eA, hcl, hK, hcc, _⟩ := Kd.F_get (Kd.V_F HV.out) [] (i : Int) (by omega) (by omega)
      obtain ⟨A1, c1, rfl, hl1, hF1⟩ := Kd.FK_slice_open hK
      subst eA
      have hx : wr.cell? (ad.add i) = some (.slice A1 (l0.getD i []).length c1) := by
       have := hcc 0 _ rfl
       refine pw_cell_below HB2.out ?_
       simpa [Kd.slice] using this
      have hF2 := Aside0.mk (Kd.F_below hF1 HB2.out)
      have hle := HL.out (i + 1)
      have hsum := block_Block_32.sum_take l0 i hi
      have HT := Aside0.mk (block_Block_32.flat_take l0 i hi)
      have hS := HS.out
      have hfl := block_Block_32.flat_len (l0.take i)
      have HLEN := Aside0.mk (show ((l0.take i).flatten.length + (l0.getD i []).length) * 32 ≤ 140737488355328 by rw [hfl]; omega)
      have HI2 := Aside0.mk (show (i + 1) + (gk - 1) = l0.length ∧ gk - 1 < gk by have := HI.out; omega)
      have d1 : decide ((i : Int) < (l0.length : Int)) = true := decide_eq_true (by omega)
      have p1 := eq_true (show (0 : Int) ≤ (i : Int) by omega)
      have p2 := eq_true (show (i : Int) < (l0.length : Int) by omega)
      clear hsum hle hS hcc hK hcl hF1 hl1 hfl
      simp only [Int.toNat_natCast] at hF2
      generalize hg2 : l0.getD i [] = ys at *
      go_wp2_with ((with_reducible refine gate_dst (N := 33) rfl ?_); (try (refine gate_guard (by rfl) ?_; dsimp only)); refine Kd.N_append_rows k53 (w0 := w) w.heap.size rfl (.tmp 31) (.tmp 32) 35 53 (.agg #[(.int .u8 0), (.slice none 0 0)]) 32 rfl Try.underlying35 info53 rfl (by decide) (by omega) u6 (l0.take i).flatten ys A1 ys.length c1 (fun k_ => (P0_ k_ ∨ w.heap.size ≤ k_)) (fun k => P0_ k ∧ k < w.heap.size) rfl rfl HO2.out hF2.out ?aK ?aF HB2.out ?aS HLEN.out ?_; (case aK => exact fun k hk => ⟨.inl hk.1, fun he => by have := Kd.N_base HO2.out k he.symm; have := hk.2; omega⟩); (case aF => exact fun k hk => .inr (Nat.le_trans (below_size HB2.out) hk)); (case aS => exact below_size HB2.out); intro v1 w2 ho hb hg hat; rw [← HT.out] at ho; have HO3 := Aside0.mk ho; have HB3 := Aside0.mk hb; clear ho hb hg hat)
      go_roundg (gk - 1)
      case measure => have := HI2.out.2; omega
      case rel => exact ⟨i + 1, by first | rfl | (push_cast; rfl), ⟨HI2.out.1⟩, HO3, HB3⟩
     ·have hin : i = l0.length := by have := HI.out; omega
      subst hin
      have d1 : decide ((l0.length : Int) < (l0.length : Int)) = false := decide_eq_false (by omega)
      rw [List.take_length] at HO2
      clear hi HI
      go_wp2
      go_ret
      exact ⟨_, rfl, HO2.out, HB2.out⟩
 ·rw [if_neg hs] at h
  cases h

/-! ### block_Disk: function 19, by hand -/
def block_Disk.head (a0 : ByteArray) (a1 : Int) : List Int := (H.spl (List.replicate 55 0) 0 ((bytesOf a0).take 14)).set 20 a1
theorem block_Disk.head_len (a0 : ByteArray) (a1 : Int) : (block_Disk.head a0 a1).length = 55 := by
 have hl := H.spl_length (List.replicate 55 (0 : Int)) ((bytesOf a0).take 14) 0 (by simp; omega)
 unfold block_Disk.head
 rw [List.length_set, hl]; simp
def block_Disk.f (a0 : ByteArray) (a1 : Int) (l2 : List (List (S53))) : Option (List (S53)) :=
 if (l2.map List.length).sum ≤ 1000000000 ∧ l2.length ≤ 1000000000 then some ([⟨1, block_Disk.head a0 a1⟩, ⟨2, [(l2.length : Int) % 256]⟩] ++ l2.flatten) else none
set_option maxHeartbeats 400000 in
set_option maxRecDepth 100000 in
theorem block_Disk.calls (a0 : ByteArray) (a1 : Int) (P2_ : Nat → Prop) (A2 : Option Addr) (c2 : Nat) (l2 : List (List (S53))) (r : List (S53)) (w : World) (hs2 : Kd.V (Kd.slice 53 k53) 35 w w.heap.size (fun k_ => P2_ k_) (.slice A2 l2.length c2) l2) (h : block_Disk.f a0 a1 l2 = some r) :
  Calls Try.prog 19 #[.string a0, .int .u8 a1, .slice A2 l2.length c2] w fun e w' => ∃ v0_ : Value, e = .returned (v0_) ∧ Kd.N k53 53 w' w.heap.size (fun k_ => (P2_ k_ ∨ w.heap.size ≤ k_)) v0_ r ∧ Below w.heap.size w w' := by
 unfold block_Disk.f at h
 by_cases hl : (l2.map List.length).sum ≤ 1000000000 ∧ l2.length ≤ 1000000000
 ·rw [if_pos hl] at h
  obtain rfl := Option.some.inj h
  have HV := Aside0.mk (Kd.V_bound hs2)
  have HL := Aside0.mk hl
  have hl2 : (l2.length : Int) ≤ 1000000000 := by omega
  have HSZ5 := Aside0.mk (show (Try.prog.info? 5).map (·.size) = some 1 by kernel_rfl)
  clear hs2 h hl
  go_enter Try.func19, Try.ntmps19
  go_wp2_with (first
   | ((with_reducible refine gate_dst (N := 8) rfl ?_); refine H.makeRow rfl 22 5 _ _ rfl 55 rfl rfl Try.underlying22 info5 (by decide) ?_; intro w1 hrow hb hsz; have ROW := Aside0.mk hrow; have HB := Aside0.mk hb; have HSZ := Aside0.mk hsz; clear hrow hb hsz)
   | ((with_reducible refine gate_dst (N := 12) rfl ?_); refine H.copyStr rfl (.tmp 10) (.tmp 11) 22 9 rfl 5 Try.underlying22 HSZ5.out w.heap.size 0 14 55 a0 rfl rfl 5 _ ROW.out (by simp) w.heap.size w HB.out (Nat.le_refl _) ?_; intro w2 hrow hb hk hz; have ROW2 := Aside0.mk hrow; have HB2 := Aside0.mk hb; have hsl := H.spl_length (List.replicate 55 0) ((bytesOf a0).take 14) 0 (by simp; omega); rw [show (List.replicate 55 (0 : Int)).length = 55 by simp] at hsl; have d20 := hrow.cell 20 (by rw [hsl]; decide); have e20 := hrow.frozen 20; clear hrow hb hk hz hsl; generalize (H.spl (List.replicate 55 0) 0 ((bytesOf a0).take 14)).getD 20 0 = x20 at *))
  have ROW3 := Aside0.mk (show H.Row 5 (w2.setCell ⟨w.heap.size, 20, none⟩ (.int .u8 a1)) w.heap.size (block_Disk.head a0 a1) from ROW2.out.set_ 20 a1)
  have HB3 := Aside0.mk (HB2.out.setCell (p := ⟨w.heap.size, 20, none⟩) (Nat.le_refl _) (.int .u8 a1))
  have HZ3 := Aside0.mk (show w2.heap.size = (w2.setCell ⟨w.heap.size, 20, none⟩ (.int .u8 a1)).heap.size by simp)
  clear ROW2 HB2 ROW HB HSZ d20 e20
  generalize w2.setCell ⟨w.heap.size, 20, none⟩ (.int .u8 a1) = Wa at *
  rw [HZ3.out]
  have HSa := Aside0.mk (below_size HB3.out)
  -- the row of one byte
  have ROWn := Aside0.mk (H.Row.alloc_new Wa 5 [(l2.length : Int) % 256] #[Value.int .u8 ((l2.length : Int) % 256)] rfl)
  have hb4 := below_alloc (Below.refl Wa.heap.size Wa) (.cells #[Value.int .u8 ((l2.length : Int) % 256)] 5)
  have HZ4 := Aside0.mk (show (Wa.alloc (.cells #[Value.int .u8 ((l2.length : Int) % 256)] 5)).heap.size = Wa.heap.size + 1 by simp)
  have ROW4 := Aside0.mk (ROW3.out.below hb4)
  have HB4 := Aside0.mk (HB3.out.trans (hb4.mono HSa.out))
  clear hb4 ROW3
  generalize Wa.alloc (.cells #[Value.int .u8 ((l2.length : Int) % 256)] 5) = Wb at *
  have hl1 := block_Disk.head_len a0 a1
  have HF1 := Aside0.mk (show Kd.F (Kd.int .u8) Wb (fun k => w.heap.size ≤ k) (some ⟨w.heap.size, 0, none⟩) (block_Disk.head a0 a1).length (block_Disk.head a0 a1) from Kd.F_mono (Kd.V_F (ROW4.out.V 0 (by rw [hl1]; decide))) (fun k hk => Nat.le_of_eq hk.symm))
  have HF2 := Aside0.mk (show Kd.F (Kd.int .u8) Wb (fun k => w.heap.size ≤ k) (some ⟨Wa.heap.size, 0, none⟩) [(l2.length : Int) % 256].length [(l2.length : Int) % 256] from Kd.F_mono (Kd.V_F (ROWn.out.V 0 (by simp))) (fun k hk => by rw [hk]; exact HSa.out))
  have hrep := ((Reps.none (Kd.FK k53 Wb (fun k => w.heap.size ≤ k)) k53.sz).snoc (p := (⟨1, block_Disk.head a0 a1⟩ : S53)) (k53_mkF Wb _ (⟨1, block_Disk.head a0 a1⟩ : S53) (Nat.le_refl _) HF1.out) rfl).snoc (p := (⟨2, [(l2.length : Int) % 256]⟩ : S53)) (k53_mkF Wb _ (⟨2, [(l2.length : Int) % 256]⟩ : S53) (Nat.le_refl _) HF2.out) rfl
  simp only [List.nil_append, List.cons_append] at hrep
  have hN := H.litN k53 w.heap.size 53 hrep (fun _ h => h) (below_size HB4.out) (below_size HB4.out) (by simp)
  rw [HZ4.out, hl1] at hN
  have HN := Aside0.mk hN
  have hb5 := below_alloc (Below.refl Wb.heap.size Wb) (.cells #[Value.int .u8 1, Value.slice (some ⟨w.heap.size, 0, none⟩) 55 55, Value.int .u8 2, Value.slice (some ⟨Wa.heap.size, 0, none⟩) 1 1] 53)
  have HB5 := Aside0.mk (HB4.out.trans (hb5.mono (below_size HB4.out)))
  clear hrep hN hb5 HF1 HF2 ROW4 ROWn hl1
  have HN2 := Aside0.mk (show Kd.N k53 53 (Wb.alloc (.cells #[Value.int .u8 1, Value.slice (some ⟨w.heap.size, 0, none⟩) 55 55, Value.int .u8 2, Value.slice (some ⟨Wa.heap.size, 0, none⟩) 1 1] 53)) w.heap.size (fun k => w.heap.size ≤ k) (.slice (some ⟨Wa.heap.size + 1, 0, none⟩) 2 2) [⟨1, block_Disk.head a0 a1⟩, ⟨2, [(l2.length : Int) % 256]⟩] from HN.out)
  clear HN
  generalize Wb.alloc (.cells #[Value.int .u8 1, Value.slice (some ⟨w.heap.size, 0, none⟩) 55 55, Value.int .u8 2, Value.slice (some ⟨Wa.heap.size, 0, none⟩) 1 1] 53) = Wc at *
  obtain ⟨fl, hfl⟩ : ∃ fl, fl = l2.flatten := ⟨_, rfl⟩
  have HFL := Aside0.mk hfl
  have HFN := Aside0.mk (show fl.length ≤ 1000000000 by rw [hfl]; have := HL.out; simp; omega)
  refine (block_Block_32.calls _ A2 c2 l2 fl Wc (Kd.V_below HV.out HB5.out) (by unfold block_Block_32.f; rw [if_pos (by have := HL.out; omega), hfl])).mono ?_
  clear hfl
  rintro e w3 ⟨v3, rfl, hn, hb⟩
  have HN3 := Aside0.mk (Kd.N_below HN2.out hb)
  have HS5 := Aside0.mk (below_size HB5.out)
  have HB6 := Aside0.mk (HB5.out.trans (hb.mono HS5.out))
  have HM := Aside0.mk (Kd.N_mono (ok' := fun k => P2_ k ∧ k < w.heap.size ∨ w.heap.size ≤ k) hn (fun k hk => hk.elim (fun h => .inl h) (fun h => .inr (Nat.le_trans HS5.out h))))
  clear hn hb HN2
  obtain ⟨A3, c3, e3⟩ := Kd.N_slice HM.out
  subst e3
  have hrep := ((Reps.none (Kd.FK (Kd.slice 53 k53) w3 (fun k => P2_ k ∧ k < w.heap.size ∨ w.heap.size ≤ k)) (Kd.slice 53 k53).sz).snoc (p := ([⟨1, block_Disk.head a0 a1⟩, ⟨2, [(l2.length : Int) % 256]⟩] : List (S53))) (Kd.FK_slice_mk (c := 2) (by simp) (Kd.F_mono (Kd.N_F HN3.out) (fun k hk => .inr hk))) rfl).snoc (p := fl) (Kd.FK_slice_mk (Kd.N_reads' HM.out).2.1 (Kd.N_F HM.out)) rfl
  simp only [List.nil_append, List.cons_append] at hrep
  have HR2 := Aside0.mk (Kd.N_V (base' := 0) (H.litN (Kd.slice 53 k53) w.heap.size 35 hrep (fun _ h => h) (.inr (below_size HB6.out)) (below_size HB6.out) (by simp)))
  clear hrep
  have hb7 := below_alloc (Below.refl w3.heap.size w3) (.cells #[Value.slice (some ⟨Wa.heap.size + 1, 0, none⟩) 2 2, Value.slice A3 fl.length c3] 35)
  have HB7 := Aside0.mk (HB6.out.trans (hb7.mono (below_size HB6.out)))
  clear hb7
  go_wp2_with fail
  have HV7 := Aside0.mk (show Kd.V (Kd.slice 53 k53) 35 (w3.alloc (.cells #[Value.slice (some ⟨Wa.heap.size + 1, 0, none⟩) 2 2, Value.slice A3 fl.length c3] 35)) 0 (fun k => P2_ k ∧ k < w.heap.size ∨ w.heap.size ≤ k) (.slice (some ⟨w3.heap.size, 0, none⟩) [[(⟨1, block_Disk.head a0 a1⟩ : S53), ⟨2, [(l2.length : Int) % 256]⟩], fl].length 2) [[⟨1, block_Disk.head a0 a1⟩, ⟨2, [(l2.length : Int) % 256]⟩], fl] from HR2.out)
  refine (block_Block_32.calls _ (some ⟨w3.heap.size, 0, none⟩) 2 [[⟨1, block_Disk.head a0 a1⟩, ⟨2, [(l2.length : Int) % 256]⟩], fl] ([⟨1, block_Disk.head a0 a1⟩, ⟨2, [(l2.length : Int) % 256]⟩] ++ fl) _ HV7.out (by unfold block_Block_32.f; rw [if_pos (by have := HFN.out; simp; omega)]; simp)).mono ?_
  rintro e w4 ⟨v4, rfl, hn, hb⟩
  have HZ7 := Aside0.mk (below_size HB7.out)
  have HB8 := Aside0.mk (HB7.out.trans (hb.mono HZ7.out))
  have HE := Aside0.mk (Kd.N_mono (ok' := fun k => P2_ k ∨ w.heap.size ≤ k) (Kd.N_lower hn HZ7.out) (fun k hk => hk.elim (fun h => h.elim (fun h => .inl h.1) .inr) (fun h => .inr (Nat.le_trans HZ7.out h))))
  clear hn hb HV7 HM HN3 HR2
  go_wp2_with fail
  go_ret
  exact ⟨_, rfl, by rw [← HFL.out]; exact HE.out, HB8.out⟩
 ·rw [if_neg hl] at h
  cases h

/-! ### block_Size: function 31 -/
def block_Size.l0 : Nat → Int → List (S53) → Int → Int → Option (Int)
 | 0, _, _, _, _ => none
 | k + 1, x3, x6, x7, x8 => if x8 < x7 then (if 0 ≤ x8 then (if x8 < (x6.length : Int) then (block_Size.l0 k (wrap64 (x3 + (wrap64 (1 + (((rd_T53 x6 x8).f1).length : Int))))) x6 x7 (wrap64 (x8 + 1))) else (none)) else (none)) else (some x3)
def block_Size.f (k : Nat) (l0 : List (S53)) : Option (Int) := block_Size.l0 k 0 l0 (l0.length : Int) 0
set_option maxHeartbeats 8000000 in
set_option maxRecDepth 100000 in
theorem block_Size.calls (k : Nat) (A0 : Option Addr) (c0 : Nat) (l0 : List (S53)) (r : Int) (w : World) (hr0 : Kd.C k53 w A0 l0.length l0) (hc0 : l0.length ≤ c0) (h : block_Size.f k l0 = some r) :
  Calls Try.prog 31 #[.slice A0 l0.length c0] w fun e w' => e = .returned (.int .i64 r) ∧ Below w.heap.size w w' := by
 have hu53 := Try.underlying53
 have HR0 := Aside0.mk hr0
 have HC0 := Aside0.mk hc0
 clear hr0 hc0
 have HB := Aside0.mk (Below.refl w.heap.size w)
 have H : (block_Size.l0 k 0 l0 (l0.length : Int) 0) = some r := h
 clear h
 have H' := Aside0.mk H
 clear H
 go_enter Try.func31, Try.ntmps31
 go_wp2
 go_loopg [3, 8] k (fun kq v3 v8 w' => ∃ (x3_1 : Int) (x8_1 : Int), v3 = .int .i64 x3_1 ∧ v8 = .int .i64 x8_1 ∧ Aside0 (block_Size.l0 kq x3_1 l0 (l0.length : Int) x8_1 = some r) ∧ Aside0 (kq ≤ k) ∧ Aside0 (Below w.heap.size w w'))
 case atStart => exact ⟨(0), (0), (by first | rfl | (simp; done) | (simp [*]; done)), (by first | rfl | (simp; done) | (simp [*]; done)), H', ⟨Nat.le_refl _⟩, ⟨by repeat (first | (with_reducible first | exact HB.out | apply below_alloc | apply pw_below_drewN | apply below_drew1) | exact HB.out)⟩⟩
 case round =>
  clear H'
  obtain ⟨x3_1, x8_1, rfl, rfl, HA, HK1, HB⟩ := hrel
  cases gk with
  | zero => exact absurd HA.out (by simp [block_Size.l0])
  | succ k1 =>
   have H := HA.out
   clear HA
   simp only [block_Size.l0] at H
   by_cases c2 : x8_1 < (l0.length : Int)
   ·rw [if_pos c2] at H
    have c2b0 : decide (x8_1 < (l0.length : Int)) = true := decide_eq_true c2
    clear c2
    by_cases c3 : 0 ≤ x8_1
    ·rw [if_pos c3] at H
     have c3b0 : decide (0 ≤ x8_1) = true := decide_eq_true c3
     clear c3
     by_cases c4 : x8_1 < (l0.length : Int)
     ·rw [if_pos c4] at H
      have c4b0 : decide (x8_1 < (l0.length : Int)) = true := decide_eq_true c4
      clear c4
      have H' := Aside0.mk H
      clear H
      have p101 : 0 ≤ (x8_1 : Int) := of_decide_eq_true (by first | (with_reducible assumption) | assumption)
      have q101 : x8_1 < (l0.length : Int) := of_decide_eq_true (by first | (with_reducible assumption) | assumption)
      obtain ⟨ad101, A101_1, c101_1, e101, hx101_0, hx101_1, hl101_1, hi101_1⟩ := at_T53 HR0.out x8_1 p101 q101
      cases e101
      replace hx101_0 := (HB.out.cell (World.block_lt_of_cell? w _ hx101_0)).trans hx101_0
      replace hx101_1 := (HB.out.cell (World.block_lt_of_cell? w _ hx101_1)).trans hx101_1
      have HR101_1 := Aside0.mk hi101_1
      have HC101_1 := Aside0.mk hl101_1
      clear hi101_1 hl101_1
      replace p101 := eq_true p101
      replace q101 := eq_true q101
      go_wp2_with (first | ((with_reducible refine gate_dst (N := 5) rfl ?_); refine box_event ?hg (N := 5) ?hd (cs := #[.int .u8 0, .slice none 0 0]) (t := 53) ?hr ?_; (case hd => rfl); (case hg => rfl); (case hr => first | (go_simp; done) | (go_simp; rfl)); intro gb102 hg w5 hbox hb; have n0_ := Aside0.mk (below_step (by repeat (first | (with_reducible first | exact HB.out | apply below_alloc | apply pw_below_drewN | apply below_drew1) | exact HB.out)) hb); have n1_ := Aside0.mk (hbox); have n2_ := Aside0.mk ((by rw [hg]; exact (below_size (by repeat (first | (with_reducible first | exact HB.out | apply below_alloc | apply pw_below_drewN | apply below_drew1) | exact HB.out))) : w.heap.size ≤ gb102)); have n3_ := Aside0.mk ((by rw [hg]; exact (below_size (by repeat (first | (with_reducible first | exact HB.out | apply below_alloc | apply pw_below_drewN | apply below_drew1) | exact HB.out))) : w.heap.size ≤ gb102)); clear HB; have HB := n0_; have BK102 := n1_; have GW102 := n2_; have GE102 := n3_; clear n0_ n1_ n2_ n3_; clear hb hbox hg; have hcz6_0 : w5.cell? ⟨gb102, 0, none⟩ = some (.int .u8 0) := (blk_cell BK102.out 0).trans rfl; have hcz6_1 : w5.cell? ⟨gb102, 1, none⟩ = some (.slice none 0 0) := (blk_cell BK102.out 1).trans rfl; have hfz6_0 := blk_frozen BK102.out 0; have hfz6_1 := blk_frozen BK102.out 1))
      go_roundg k1
      case measure => have := HK1.out; omega
      case rel => exact ⟨(wrap64 (x3_1 + (wrap64 (1 + (((rd_T53 l0 x8_1).f1).length : Int))))), (wrap64 (x8_1 + 1)), (by first | rfl | (simp; done) | (simp [*]; done)), (by first | rfl | (simp; done) | (simp [*]; done)), H', ⟨by have := HK1.out; omega⟩, ⟨by repeat (first | (with_reducible first | exact HB.out | apply below_alloc | apply pw_below_drewN | apply below_drew1 | refine below_set ?_ GE102.out) | exact HB.out)⟩⟩
     ·rw [if_neg c4] at H
      exact absurd H (by simp)
    ·rw [if_neg c3] at H
     exact absurd H (by simp)
   ·rw [if_neg c2] at H
    have c2b0 : decide (x8_1 < (l0.length : Int)) = false := decide_eq_false c2
    clear c2
    obtain rfl := Option.some.inj H
    go_wp2
    go_ret
    exact ⟨by first | rfl | (simp [errW_none, errW_some] <;> rfl) | (simp [*, errW_none, errW_some] <;> rfl), by repeat (first | (with_reducible first | exact HB.out | apply below_alloc | apply pw_below_drewN | apply below_drew1) | exact HB.out)⟩

/-! ### groove_Full: function 18 -/
def groove_Full.f (k : Nat) (l0 : List (S53)) : Option (Int) := (block_Size.f k l0).bind fun t103 => (some (wrap64 ((wrap64 (3500 + t103)) + (wrap64 ((l0.length : Int) * 123)))))
set_option maxHeartbeats 8000000 in
set_option maxRecDepth 100000 in
theorem groove_Full.calls (k : Nat) (A0 : Option Addr) (c0 : Nat) (l0 : List (S53)) (r : Int) (w : World) (hr0 : Kd.C k53 w A0 l0.length l0) (hc0 : l0.length ≤ c0) (h : groove_Full.f k l0 = some r) :
  Calls Try.prog 18 #[.slice A0 l0.length c0] w fun e w' => e = .returned (.int .i64 r) ∧ Below w.heap.size w w' := by
 have HR0 := Aside0.mk hr0
 have HC0 := Aside0.mk hc0
 clear hr0 hc0
 have HB := Aside0.mk (Below.refl w.heap.size w)
 have H : ((block_Size.f k l0).bind fun t103 => (some (wrap64 ((wrap64 (3500 + t103)) + (wrap64 ((l0.length : Int) * 123)))))) = some r := h
 clear h
 replace H := Option.bind_eq_some_iff.mp H
 obtain ⟨t103, A20, H⟩ := H
 replace H : (some (wrap64 ((wrap64 (3500 + t103)) + (wrap64 ((l0.length : Int) * 123))))) = some r := H
 have A2 := Aside0.mk A20
 clear A20
 obtain rfl := Option.some.inj H
 go_enter Try.func18, Try.ntmps18
 go_wp2_with (first | ((with_reducible refine gate_callee (f := 31) rfl ?_); refine goesL_ (some 4) rfl rfl Try.func31 (by kernel_rfl) rfl #[.slice A0 l0.length c0] rfl (by (try simp only [List.map_toArray, List.map_cons, List.map_nil]); first | done | rfl | (simp only [List.length_drop, List.length_take]; rfl)) ?_; (with_reducible refine (block_Size.calls k _ _ l0 t103 _ ?side1 ?side2 A2.out).mono ?_); (case side1 => repeat (first | exact HR0.out | (with_reducible refine Kd.C_alloc ?_ _) | (with_reducible refine Kd.C_drewN ?_ _) | (with_reducible refine Kd.C_drew ?_))); (case side2 => exact HC0.out); rintro e w3 ⟨rfl, hb⟩; refine ⟨_, rfl, ?_⟩; have n0_ := Aside0.mk (below_step (by repeat (first | (with_reducible first | exact HB.out | apply below_alloc | apply pw_below_drewN | apply below_drew1) | exact HB.out)) hb); clear HB; have HB := n0_; clear n0_; (try clear hb); (try clear hb2); (try clear hk); (try clear hi)))
 go_ret
 exact ⟨by first | rfl | (simp [errW_none, errW_some] <;> rfl) | (simp [*, errW_none, errW_some] <;> rfl), by repeat (first | (with_reducible first | exact HB.out | apply below_alloc | apply pw_below_drewN | apply below_drew1) | exact HB.out)⟩

/-! ### block_expects: function 41 -/
def block_expects.f (a0 : Int) (l1 : List Int) : Option (Int × Int) := if a0 ≥ 512 then (some (0, 0)) else (if a0 = 0 then (some (1, 55)) else (if a0 = 1 then (some (2, 1)) else (if (Int.tmod a0 2) = 0 then (some (3, 15)) else (if 12 < (l1.length : Int) then (if 13 < (l1.length : Int) then (some (4, Go.bits .or .i64 (wrap64 (rd l1 12)) (wrap64 ((wrap64 (rd l1 13)) * 256)))) else (none)) else (none)))))
set_option maxHeartbeats 8000000 in
set_option maxRecDepth 100000 in
theorem block_expects.calls (a0 : Int) (A1 : Option Addr) (c1 : Nat) (l1 : List Int) (r1 : Int) (r2 : Int) (w : World) (hr1 : Kd.C (Kd.int .u8) w A1 l1.length l1) (hc1 : l1.length ≤ c1) (h : block_expects.f a0 l1 = some (r1, r2)) :
  Calls Try.prog 41 #[.int .i64 a0, .slice A1 l1.length c1] w fun e w' => e = .returned (.tuple #[.int .u8 r1, .int .i64 r2]) ∧ Drawn0 w w' := by
 have HR1 := Aside0.mk hr1
 have HC1 := Aside0.mk hc1
 clear hr1 hc1
 have H : (if a0 ≥ 512 then (some (0, 0)) else (if a0 = 0 then (some (1, 55)) else (if a0 = 1 then (some (2, 1)) else (if (Int.tmod a0 2) = 0 then (some (3, 15)) else (if 12 < (l1.length : Int) then (if 13 < (l1.length : Int) then (some (4, Go.bits .or .i64 (wrap64 (rd l1 12)) (wrap64 ((wrap64 (rd l1 13)) * 256)))) else (none)) else (none)))))) = some (r1, r2) := h
 clear h
 by_cases c3 : a0 ≥ 512
 ·rw [if_pos c3] at H
  have c3b0 : decide (512 ≤ a0) = true := decide_eq_true c3
  clear c3
  simp only [Option.some.injEq, Prod.mk.injEq] at H
  obtain ⟨rfl, rfl⟩ := H
  go_enter Try.func41, Try.ntmps41
  go_wp2
  repeat (go_quiet (fail); try go_wp2)
  go_ret2
  exact ⟨by first | rfl | (simp; done) | (simp [*]; done), by repeat (first | exact Drawn0.refl _ | apply Drawn0.step)⟩
 ·rw [if_neg c3] at H
  have c3b0 : decide (512 ≤ a0) = false := decide_eq_false c3
  clear c3
  by_cases c4 : a0 = 0
  ·rw [if_pos c4] at H
   have c4b0 : (a0 == 0) = true := beq_iff_eq.mpr c4
   have c4b1 : (a0 != 0) = false := bne_eq_false_iff_eq.mpr c4
   clear c4
   simp only [Option.some.injEq, Prod.mk.injEq] at H
   obtain ⟨rfl, rfl⟩ := H
   go_enter Try.func41, Try.ntmps41
   go_wp2
   repeat (go_quiet (fail); try go_wp2)
   go_ret2
   exact ⟨by first | rfl | (simp; done) | (simp [*]; done), by repeat (first | exact Drawn0.refl _ | apply Drawn0.step)⟩
  ·rw [if_neg c4] at H
   have c4b0 : (a0 == 0) = false := beq_eq_false_iff_ne.mpr c4
   have c4b1 : (a0 != 0) = true := bne_iff_ne.mpr c4
   by_cases c5 : a0 = 1
   ·rw [if_pos c5] at H
    have c5b0 : (a0 == 1) = true := beq_iff_eq.mpr c5
    have c5b1 : (a0 != 1) = false := bne_eq_false_iff_eq.mpr c5
    clear c5
    simp only [Option.some.injEq, Prod.mk.injEq] at H
    obtain ⟨rfl, rfl⟩ := H
    go_enter Try.func41, Try.ntmps41
    go_wp2
    repeat (go_quiet (fail); try go_wp2)
    go_ret2
    exact ⟨by first | rfl | (simp; done) | (simp [*]; done), by repeat (first | exact Drawn0.refl _ | apply Drawn0.step)⟩
   ·rw [if_neg c5] at H
    have c5b0 : (a0 == 1) = false := beq_eq_false_iff_ne.mpr c5
    have c5b1 : (a0 != 1) = true := bne_iff_ne.mpr c5
    by_cases c6 : (Int.tmod a0 2) = 0
    ·rw [if_pos c6] at H
     have c6b0 : ((Int.tmod a0 2) == 0) = true := beq_iff_eq.mpr c6
     have c6b1 : ((Int.tmod a0 2) != 0) = false := bne_eq_false_iff_eq.mpr c6
     clear c6
     simp only [Option.some.injEq, Prod.mk.injEq] at H
     obtain ⟨rfl, rfl⟩ := H
     go_enter Try.func41, Try.ntmps41
     go_wp2
     repeat (go_quiet (fail); try go_wp2)
     go_ret2
     exact ⟨by first | rfl | (simp; done) | (simp [*]; done), by repeat (first | exact Drawn0.refl _ | apply Drawn0.step)⟩
    ·rw [if_neg c6] at H
     have c6b0 : ((Int.tmod a0 2) == 0) = false := beq_eq_false_iff_ne.mpr c6
     have c6b1 : ((Int.tmod a0 2) != 0) = true := bne_iff_ne.mpr c6
     by_cases c7 : 12 < (l1.length : Int)
     ·rw [if_pos c7] at H
      have c7b0 : decide (12 < (l1.length : Int)) = true := decide_eq_true c7
      have c7b1 : decide (12 < l1.length) = true := decide_eq_true (by omega)
      clear c7
      by_cases c8 : 13 < (l1.length : Int)
      ·rw [if_pos c8] at H
       have c8b0 : decide (13 < (l1.length : Int)) = true := decide_eq_true c8
       have c8b1 : decide (13 < l1.length) = true := decide_eq_true (by omega)
       clear c8
       simp only [Option.some.injEq, Prod.mk.injEq] at H
       obtain ⟨rfl, rfl⟩ := H
       have p104 : 0 ≤ (12 : Int) := (by omega)
       have q104 : 12 < (l1.length : Int) := of_decide_eq_true (by first | (with_reducible assumption) | assumption)
       obtain ⟨ad104, e104, hx104_0⟩ := Kd.at_int HR1.out 12 p104 q104
       cases e104
       (try simp only [show (12 : Int).toNat = 12 from rfl, Nat.reduceMul, Nat.reduceEqDiff, Go.Addr.add, ↓reduceIte] at hx104_0)
       have qi104 : (12 < l1.length) = True := eq_true (by omega)
       (try rw [show ((12 : Int)).toNat = 12 from rfl] at hx104_0)
       replace p104 := eq_true p104
       replace q104 := eq_true q104
       have p105 : 0 ≤ (13 : Int) := (by omega)
       have q105 : 13 < (l1.length : Int) := of_decide_eq_true (by first | (with_reducible assumption) | assumption)
       obtain ⟨ad105, e105, hx105_0⟩ := Kd.at_int HR1.out 13 p105 q105
       obtain rfl : ad104 = ad105 := (by injection e105)
       (try simp only [show (13 : Int).toNat = 13 from rfl, Nat.reduceMul, Nat.reduceEqDiff, Go.Addr.add, ↓reduceIte] at hx105_0)
       have qi105 : (13 < l1.length) = True := eq_true (by omega)
       (try rw [show ((13 : Int)).toNat = 13 from rfl] at hx105_0)
       replace p105 := eq_true p105
       replace q105 := eq_true q105
       go_enter Try.func41, Try.ntmps41
       go_wp2
       repeat (go_quiet (fail); try go_wp2)
       go_ret2
       exact ⟨by first | rfl | (simp; done) | (simp [*]; done), by repeat (first | exact Drawn0.refl _ | apply Drawn0.step)⟩
      ·rw [if_neg c8] at H
       exact absurd H (by simp)
     ·rw [if_neg c7] at H
      exact absurd H (by simp)

/-! ### block_Right: function 33 -/
def block_Right.l0 : Nat → List Int → List (S53) → Int → Int → Option (Bool)
 | 0, _, _, _, _ => none
 | k + 1, x3, x8, x9, x10 => if x10 < x9 then (if 0 ≤ x10 then (if x10 < (x8.length : Int) then ((block_expects.f x10 x3).bind fun bt108 => (if ((rd_T53 x8 x10).f0) = bt108.1 then (if (((rd_T53 x8 x10).f1).length : Int) = bt108.2 then (if bt108.1 = 0 then (some false) else (block_Right.l0 k ((rd_T53 x8 x10).f1) x8 x9 (wrap64 (x10 + 1)))) else (some false)) else (some false))) else (none)) else (none)) else (some true)
def block_Right.f (k : Nat) (l0 : List (S53)) : Option (Bool) := block_Right.l0 k ([] : List Int) l0 (l0.length : Int) 0
set_option maxHeartbeats 8000000 in
set_option maxRecDepth 100000 in
theorem block_Right.calls (k : Nat) (P0_ : Nat → Prop) (A0 : Option Addr) (c0 : Nat) (l0 : List (S53)) (r : Bool) (w : World) (hs0 : Kd.V k53 53 w w.heap.size (fun k_ => P0_ k_) (.slice A0 l0.length c0) l0) (h : block_Right.f k l0 = some r) :
  Calls Try.prog 33 #[.slice A0 l0.length c0] w fun e w' => e = .returned (.bool r) ∧ Below w.heap.size w w' := by
 have hu53 := Try.underlying53
 have HO0 := Aside0.mk (show Kd.V k53 53 w w.heap.size (fun k_ => (P0_ k_ ∨ w.heap.size ≤ k_)) (.slice A0 l0.length c0) l0 from Kd.V_mono hs0 (fun k_ hk => .inl hk))
 have HB := Aside0.mk (Below.refl w.heap.size w)
 have H : (block_Right.l0 k ([] : List Int) l0 (l0.length : Int) 0) = some r := h
 clear h
 have H' := Aside0.mk H
 clear H
 go_enter Try.func33, Try.ntmps33
 go_wp2
 go_loopg [3, 10] k (fun kq v3 v10 w' => ∃ (x3_1 : List Int) (x10_1 : Int), v10 = .int .i64 x10_1 ∧ Aside0 (block_Right.l0 kq x3_1 l0 (l0.length : Int) x10_1 = some r) ∧ Aside0 (kq ≤ k) ∧ Aside0 (Kd.V (Kd.int .u8) 5 w' w.heap.size (fun k_ => (P0_ k_ ∨ w.heap.size ≤ k_)) v3 x3_1) ∧ Aside0 (Kd.V k53 53 w' w.heap.size (fun k_ => (P0_ k_ ∨ w.heap.size ≤ k_)) (.slice A0 l0.length c0) l0) ∧ Aside0 (Below w.heap.size w w'))
 case atStart => exact ⟨(([] : List Int)), (0), (by first | rfl | (simp; done) | (simp [*]; done)), H', ⟨Nat.le_refl _⟩, ⟨Kd.V_nil _ _ _ _ _⟩, ⟨by (with_reducible repeat (first | apply Kd.V_alloc | apply Kd.V_drewN | apply Kd.V_drew)); exact HO0.out⟩, ⟨by repeat (first | (with_reducible first | exact HB.out | apply below_alloc | apply pw_below_drewN | apply below_drew1) | exact HB.out)⟩⟩
 case round =>
  clear H'
  obtain ⟨x3_1, x10_1, rfl, HA, HK1, HO_3, HO_8, HB⟩ := hrel
  cases gk with
  | zero => exact absurd HA.out (by simp [block_Right.l0])
  | succ k1 =>
   have H := HA.out
   clear HA
   simp only [block_Right.l0] at H
   by_cases c2 : x10_1 < (l0.length : Int)
   ·rw [if_pos c2] at H
    have c2b0 : decide (x10_1 < (l0.length : Int)) = true := decide_eq_true c2
    clear c2
    by_cases c3 : 0 ≤ x10_1
    ·rw [if_pos c3] at H
     have c3b0 : decide (0 ≤ x10_1) = true := decide_eq_true c3
     clear c3
     by_cases c4 : x10_1 < (l0.length : Int)
     ·rw [if_pos c4] at H
      have c4b0 : decide (x10_1 < (l0.length : Int)) = true := decide_eq_true c4
      clear c4
      replace H := Option.bind_eq_some_iff.mp H
      obtain ⟨⟨t108, t109⟩, A50, H⟩ := H
      replace H : (if ((rd_T53 l0 x10_1).f0) = t108 then (if (((rd_T53 l0 x10_1).f1).length : Int) = t109 then (if t108 = 0 then (some false) else (block_Right.l0 k1 ((rd_T53 l0 x10_1).f1) l0 (l0.length : Int) (wrap64 (x10_1 + 1)))) else (some false)) else (some false)) = some r := H
      have A5 := Aside0.mk A50
      clear A50
      by_cases c6 : ((rd_T53 l0 x10_1).f0) = t108
      ·rw [if_pos c6] at H
       have c6b0 : (((rd_T53 l0 x10_1).f0) == t108) = true := beq_iff_eq.mpr c6
       have c6b1 : (((rd_T53 l0 x10_1).f0) != t108) = false := bne_eq_false_iff_eq.mpr c6
       clear c6
       by_cases c7 : (((rd_T53 l0 x10_1).f1).length : Int) = t109
       ·rw [if_pos c7] at H
        have c7b0 : ((((rd_T53 l0 x10_1).f1).length : Int) == t109) = true := beq_iff_eq.mpr c7
        have c7b1 : ((((rd_T53 l0 x10_1).f1).length : Int) != t109) = false := bne_eq_false_iff_eq.mpr c7
        clear c7
        by_cases c8 : t108 = 0
        ·rw [if_pos c8] at H
         have c8b0 : (t108 == 0) = true := beq_iff_eq.mpr c8
         have c8b1 : (t108 != 0) = false := bne_eq_false_iff_eq.mpr c8
         clear c8
         obtain rfl := Option.some.inj H
         have p106 : 0 ≤ (x10_1 : Int) := of_decide_eq_true (by first | (with_reducible assumption) | assumption)
         have q106 : x10_1 < (l0.length : Int) := of_decide_eq_true (by first | (with_reducible assumption) | assumption)
         obtain ⟨ad106, A106_1, c106_1, e106, hx106_0, hx106_1, hl106_1, hi106_1⟩ := at_T53 (Kd.V_reads' HO_8.out).2.2 x10_1 p106 q106
         cases e106
         obtain ⟨ce106, hce106, hMe106, hcc106⟩ := Kd.V_get HO_8.out z53 x10_1 p106 (by first | exact q106 | exact of_decide_eq_true (by first | (with_reducible assumption) | assumption) | (have e_ := (Kd.V_reads' HO_8.out).1; omega))
         obtain ⟨ua106_1, uc106_1, rfl, ul106_1, ge106_1⟩ := k53_openF hMe106
         have hv106_1 := hcc106 1 _ rfl
         rw [add_field _ _ 1 (by omega)] at hv106_1
         replace hv106_1 := Option.some.inj (hv106_1.symm.trans hx106_1)
         injection hv106_1 with hva_ hvn_ hvc_
         rw [hva_] at ge106_1
         rw [hvc_] at ul106_1
         have HL106_1 := Aside0.mk (show Kd.V (Kd.int .u8) 5 _ w.heap.size _ _ ((rd_T53 l0 x10_1).f1) from Kd.V_mk ul106_1 ge106_1)
         clear hva_ hvn_ hvc_ ge106_1 ul106_1
         clear hcc106 hce106
         have HR106_1 := Aside0.mk hi106_1
         have HC106_1 := Aside0.mk hl106_1
         clear hi106_1 hl106_1
         replace p106 := eq_true p106
         replace q106 := eq_true q106
         go_wp2_with (first | ((with_reducible refine gate_dst (N := 5) rfl ?_); (try (refine gate_guard (by rfl) ?_; dsimp only)); refine box_event ?hg (N := 5) ?hd (cs := #[.int .u8 0, .slice none 0 0]) (t := 53) ?hr ?_; (case hd => rfl); (case hg => rfl); (case hr => first | (go_simp; done) | (go_simp; rfl)); intro gb107 hg w9 hbox hb; have n0_ := Aside0.mk (Kd.V_below (Kd.V_elderB (by (with_reducible repeat (first | apply Kd.V_alloc | apply Kd.V_drewN | apply Kd.V_drew)); exact HO_3.out) gb107 (Nat.le_of_eq hg.symm)) hb); have n1_ := Aside0.mk (Kd.V_below (Kd.V_elderB (by (with_reducible repeat (first | apply Kd.V_alloc | apply Kd.V_drewN | apply Kd.V_drew)); exact HO_8.out) gb107 (Nat.le_of_eq hg.symm)) hb); have n2_ := Aside0.mk (Kd.V_below (Kd.V_elderB (by (with_reducible repeat (first | apply Kd.V_alloc | apply Kd.V_drewN | apply Kd.V_drew)); exact HL106_1.out) gb107 (Nat.le_of_eq hg.symm)) hb); have n3_ := Aside0.mk (Kd.C_below (by repeat (first | (with_reducible exact HR106_1.out) | (with_reducible refine Kd.C_alloc ?_ _) | (with_reducible refine Kd.C_drewN ?_ _) | (with_reducible refine Kd.C_drew ?_) | exact HR106_1.out)) hb); have n4_ := Aside0.mk (below_step (by repeat (first | (with_reducible first | exact HB.out | apply below_alloc | apply pw_below_drewN | apply below_drew1) | exact HB.out)) hb); have n5_ := Aside0.mk (hbox); have n6_ := Aside0.mk ((by rw [hg]; exact (below_size (by repeat (first | (with_reducible first | exact HB.out | apply below_alloc | apply pw_below_drewN | apply below_drew1) | exact HB.out))) : w.heap.size ≤ gb107)); have n7_ := Aside0.mk ((by rw [hg]; exact (below_size (by repeat (first | (with_reducible first | exact HB.out | apply below_alloc | apply pw_below_drewN | apply below_drew1) | exact HB.out))) : w.heap.size ≤ gb107)); clear HO_3; clear HO_8; clear HL106_1; clear HR106_1; clear HB; have HO_3 := n0_; have HO_8 := n1_; have HL106_1 := n2_; have HR106_1 := n3_; have HB := n4_; have BK107 := n5_; have GW107 := n6_; have GE107 := n7_; clear n0_ n1_ n2_ n3_ n4_ n5_ n6_ n7_; clear hb hbox hg; have hcz10_0 : w9.cell? ⟨gb107, 0, none⟩ = some (.int .u8 0) := (blk_cell BK107.out 0).trans rfl; have hcz10_1 : w9.cell? ⟨gb107, 1, none⟩ = some (.slice none 0 0) := (blk_cell BK107.out 1).trans rfl; have hfz10_0 := blk_frozen BK107.out 0; have hfz10_1 := blk_frozen BK107.out 1; obtain ⟨Ao11, co11, eo11⟩ := Kd.V_slice HO_3.out; subst eo11) | ((with_reducible refine gate_callee (f := 41) rfl ?_); refine goesL_ (some 18) rfl rfl Try.func41 (by kernel_rfl) rfl #[.int .i64 x10_1, .slice Ao11 x3_1.length co11] rfl (by (try simp only [List.map_toArray, List.map_cons, List.map_nil]); first | done | rfl | (simp only [List.length_drop, List.length_take]; rfl)) ?_; (with_reducible refine (block_expects.calls x10_1 _ _ x3_1 t108 t109 _ ?side1 ?side2 A5.out).mono ?_); (case side1 => refine (Kd.V_reads' (e := 5) (base := w.heap.size) (ok := fun k_ => ((P0_ k_ ∨ w.heap.size ≤ k_) ∧ k_ ≠ gb107)) (n := x3_1.length) (c := co11) ?_).2.2; exact (by (with_reducible repeat (first | apply Kd.V_alloc | apply Kd.V_drewN | apply Kd.V_drew)); exact (Kd.V_mono (Kd.V_far (p := ⟨gb107, 1, none⟩) (Kd.V_far (p := ⟨gb107, 0, none⟩) (Kd.V_mono HO_3.out (fun k_ hk => (⟨hk, hk.2⟩ : _ ∧ k_ ≠ gb107))) (fun _ hk => hk.2) (.int .u8 ((rd_T53 l0 x10_1).f0))) (fun _ hk => hk.2) (.slice A106_1 ((rd_T53 l0 x10_1).f1).length c106_1)) (fun _ h_ => h_.1)))); (case side2 => exact (Kd.V_reads' HO_3.out).2.1); rintro e w' ⟨rfl, ⟨nd, rfl⟩⟩; refine ⟨_, rfl, ?_⟩))
         go_ret
         exact ⟨by first | rfl | (simp [errW_none, errW_some] <;> rfl) | (simp [*, errW_none, errW_some] <;> rfl), by repeat (first | (with_reducible first | exact HB.out | apply below_alloc | apply pw_below_drewN | apply below_drew1 | refine below_set ?_ GE107.out) | exact HB.out)⟩
        ·rw [if_neg c8] at H
         have c8b0 : (t108 == 0) = false := beq_eq_false_iff_ne.mpr c8
         have c8b1 : (t108 != 0) = true := bne_iff_ne.mpr c8
         have H' := Aside0.mk H
         clear H
         have p106 : 0 ≤ (x10_1 : Int) := of_decide_eq_true (by first | (with_reducible assumption) | assumption)
         have q106 : x10_1 < (l0.length : Int) := of_decide_eq_true (by first | (with_reducible assumption) | assumption)
         obtain ⟨ad106, A106_1, c106_1, e106, hx106_0, hx106_1, hl106_1, hi106_1⟩ := at_T53 (Kd.V_reads' HO_8.out).2.2 x10_1 p106 q106
         cases e106
         obtain ⟨ce106, hce106, hMe106, hcc106⟩ := Kd.V_get HO_8.out z53 x10_1 p106 (by first | exact q106 | exact of_decide_eq_true (by first | (with_reducible assumption) | assumption) | (have e_ := (Kd.V_reads' HO_8.out).1; omega))
         obtain ⟨ua106_1, uc106_1, rfl, ul106_1, ge106_1⟩ := k53_openF hMe106
         have hv106_1 := hcc106 1 _ rfl
         rw [add_field _ _ 1 (by omega)] at hv106_1
         replace hv106_1 := Option.some.inj (hv106_1.symm.trans hx106_1)
         injection hv106_1 with hva_ hvn_ hvc_
         rw [hva_] at ge106_1
         rw [hvc_] at ul106_1
         have HL106_1 := Aside0.mk (show Kd.V (Kd.int .u8) 5 _ w.heap.size _ _ ((rd_T53 l0 x10_1).f1) from Kd.V_mk ul106_1 ge106_1)
         clear hva_ hvn_ hvc_ ge106_1 ul106_1
         clear hcc106 hce106
         have HR106_1 := Aside0.mk hi106_1
         have HC106_1 := Aside0.mk hl106_1
         clear hi106_1 hl106_1
         replace p106 := eq_true p106
         replace q106 := eq_true q106
         go_wp2_with (first | ((with_reducible refine gate_dst (N := 5) rfl ?_); (try (refine gate_guard (by rfl) ?_; dsimp only)); refine box_event ?hg (N := 5) ?hd (cs := #[.int .u8 0, .slice none 0 0]) (t := 53) ?hr ?_; (case hd => rfl); (case hg => rfl); (case hr => first | (go_simp; done) | (go_simp; rfl)); intro gb107 hg w12 hbox hb; have n0_ := Aside0.mk (Kd.V_below (Kd.V_elderB (by (with_reducible repeat (first | apply Kd.V_alloc | apply Kd.V_drewN | apply Kd.V_drew)); exact HO_3.out) gb107 (Nat.le_of_eq hg.symm)) hb); have n1_ := Aside0.mk (Kd.V_below (Kd.V_elderB (by (with_reducible repeat (first | apply Kd.V_alloc | apply Kd.V_drewN | apply Kd.V_drew)); exact HO_8.out) gb107 (Nat.le_of_eq hg.symm)) hb); have n2_ := Aside0.mk (Kd.V_below (Kd.V_elderB (by (with_reducible repeat (first | apply Kd.V_alloc | apply Kd.V_drewN | apply Kd.V_drew)); exact HL106_1.out) gb107 (Nat.le_of_eq hg.symm)) hb); have n3_ := Aside0.mk (Kd.C_below (by repeat (first | (with_reducible exact HR106_1.out) | (with_reducible refine Kd.C_alloc ?_ _) | (with_reducible refine Kd.C_drewN ?_ _) | (with_reducible refine Kd.C_drew ?_) | exact HR106_1.out)) hb); have n4_ := Aside0.mk (below_step (by repeat (first | (with_reducible first | exact HB.out | apply below_alloc | apply pw_below_drewN | apply below_drew1) | exact HB.out)) hb); have n5_ := Aside0.mk (hbox); have n6_ := Aside0.mk ((by rw [hg]; exact (below_size (by repeat (first | (with_reducible first | exact HB.out | apply below_alloc | apply pw_below_drewN | apply below_drew1) | exact HB.out))) : w.heap.size ≤ gb107)); have n7_ := Aside0.mk ((by rw [hg]; exact (below_size (by repeat (first | (with_reducible first | exact HB.out | apply below_alloc | apply pw_below_drewN | apply below_drew1) | exact HB.out))) : w.heap.size ≤ gb107)); clear HO_3; clear HO_8; clear HL106_1; clear HR106_1; clear HB; have HO_3 := n0_; have HO_8 := n1_; have HL106_1 := n2_; have HR106_1 := n3_; have HB := n4_; have BK107 := n5_; have GW107 := n6_; have GE107 := n7_; clear n0_ n1_ n2_ n3_ n4_ n5_ n6_ n7_; clear hb hbox hg; have hcz13_0 : w12.cell? ⟨gb107, 0, none⟩ = some (.int .u8 0) := (blk_cell BK107.out 0).trans rfl; have hcz13_1 : w12.cell? ⟨gb107, 1, none⟩ = some (.slice none 0 0) := (blk_cell BK107.out 1).trans rfl; have hfz13_0 := blk_frozen BK107.out 0; have hfz13_1 := blk_frozen BK107.out 1; obtain ⟨Ao14, co14, eo14⟩ := Kd.V_slice HO_3.out; subst eo14) | ((with_reducible refine gate_callee (f := 41) rfl ?_); refine goesL_ (some 18) rfl rfl Try.func41 (by kernel_rfl) rfl #[.int .i64 x10_1, .slice Ao14 x3_1.length co14] rfl (by (try simp only [List.map_toArray, List.map_cons, List.map_nil]); first | done | rfl | (simp only [List.length_drop, List.length_take]; rfl)) ?_; (with_reducible refine (block_expects.calls x10_1 _ _ x3_1 t108 t109 _ ?side1 ?side2 A5.out).mono ?_); (case side1 => refine (Kd.V_reads' (e := 5) (base := w.heap.size) (ok := fun k_ => ((P0_ k_ ∨ w.heap.size ≤ k_) ∧ k_ ≠ gb107)) (n := x3_1.length) (c := co14) ?_).2.2; exact (by (with_reducible repeat (first | apply Kd.V_alloc | apply Kd.V_drewN | apply Kd.V_drew)); exact (Kd.V_mono (Kd.V_far (p := ⟨gb107, 1, none⟩) (Kd.V_far (p := ⟨gb107, 0, none⟩) (Kd.V_mono HO_3.out (fun k_ hk => (⟨hk, hk.2⟩ : _ ∧ k_ ≠ gb107))) (fun _ hk => hk.2) (.int .u8 ((rd_T53 l0 x10_1).f0))) (fun _ hk => hk.2) (.slice A106_1 ((rd_T53 l0 x10_1).f1).length c106_1)) (fun _ h_ => h_.1)))); (case side2 => exact (Kd.V_reads' HO_3.out).2.1); rintro e w' ⟨rfl, ⟨nd, rfl⟩⟩; refine ⟨_, rfl, ?_⟩))
         go_roundg k1
         case measure => have := HK1.out; omega
         case rel => exact ⟨((rd_T53 l0 x10_1).f1), (wrap64 (x10_1 + 1)), (by first | rfl | (simp; done) | (simp [*]; done)), H', ⟨by have := HK1.out; omega⟩, ⟨by (with_reducible repeat (first | apply Kd.V_alloc | apply Kd.V_drewN | apply Kd.V_drew)); exact Kd.V_mono (Kd.V_far (p := ⟨gb107, 1, none⟩) (Kd.V_far (p := ⟨gb107, 0, none⟩) (Kd.V_mono HL106_1.out (fun k_ hk => (⟨hk, hk.2⟩ : _ ∧ k_ ≠ gb107))) (fun _ hk => hk.2) (.int .u8 ((rd_T53 l0 x10_1).f0))) (fun _ hk => hk.2) (.slice A106_1 ((rd_T53 l0 x10_1).f1).length c106_1)) (fun _ hk => hk.1.1)⟩, ⟨by (with_reducible repeat (first | apply Kd.V_alloc | apply Kd.V_drewN | apply Kd.V_drew)); exact Kd.V_mono (Kd.V_far (p := ⟨gb107, 1, none⟩) (Kd.V_far (p := ⟨gb107, 0, none⟩) (Kd.V_mono HO_8.out (fun k_ hk => (⟨hk, hk.2⟩ : _ ∧ k_ ≠ gb107))) (fun _ hk => hk.2) (.int .u8 ((rd_T53 l0 x10_1).f0))) (fun _ hk => hk.2) (.slice A106_1 ((rd_T53 l0 x10_1).f1).length c106_1)) (fun _ hk => hk.1.1)⟩, ⟨by repeat (first | (with_reducible first | exact HB.out | apply below_alloc | apply pw_below_drewN | apply below_drew1 | refine below_set ?_ GE107.out) | exact HB.out)⟩⟩
       ·rw [if_neg c7] at H
        have c7b0 : ((((rd_T53 l0 x10_1).f1).length : Int) == t109) = false := beq_eq_false_iff_ne.mpr c7
        have c7b1 : ((((rd_T53 l0 x10_1).f1).length : Int) != t109) = true := bne_iff_ne.mpr c7
        obtain rfl := Option.some.inj H
        have p106 : 0 ≤ (x10_1 : Int) := of_decide_eq_true (by first | (with_reducible assumption) | assumption)
        have q106 : x10_1 < (l0.length : Int) := of_decide_eq_true (by first | (with_reducible assumption) | assumption)
        obtain ⟨ad106, A106_1, c106_1, e106, hx106_0, hx106_1, hl106_1, hi106_1⟩ := at_T53 (Kd.V_reads' HO_8.out).2.2 x10_1 p106 q106
        cases e106
        obtain ⟨ce106, hce106, hMe106, hcc106⟩ := Kd.V_get HO_8.out z53 x10_1 p106 (by first | exact q106 | exact of_decide_eq_true (by first | (with_reducible assumption) | assumption) | (have e_ := (Kd.V_reads' HO_8.out).1; omega))
        obtain ⟨ua106_1, uc106_1, rfl, ul106_1, ge106_1⟩ := k53_openF hMe106
        have hv106_1 := hcc106 1 _ rfl
        rw [add_field _ _ 1 (by omega)] at hv106_1
        replace hv106_1 := Option.some.inj (hv106_1.symm.trans hx106_1)
        injection hv106_1 with hva_ hvn_ hvc_
        rw [hva_] at ge106_1
        rw [hvc_] at ul106_1
        have HL106_1 := Aside0.mk (show Kd.V (Kd.int .u8) 5 _ w.heap.size _ _ ((rd_T53 l0 x10_1).f1) from Kd.V_mk ul106_1 ge106_1)
        clear hva_ hvn_ hvc_ ge106_1 ul106_1
        clear hcc106 hce106
        have HR106_1 := Aside0.mk hi106_1
        have HC106_1 := Aside0.mk hl106_1
        clear hi106_1 hl106_1
        replace p106 := eq_true p106
        replace q106 := eq_true q106
        go_wp2_with (first | ((with_reducible refine gate_dst (N := 5) rfl ?_); (try (refine gate_guard (by rfl) ?_; dsimp only)); refine box_event ?hg (N := 5) ?hd (cs := #[.int .u8 0, .slice none 0 0]) (t := 53) ?hr ?_; (case hd => rfl); (case hg => rfl); (case hr => first | (go_simp; done) | (go_simp; rfl)); intro gb107 hg w15 hbox hb; have n0_ := Aside0.mk (Kd.V_below (Kd.V_elderB (by (with_reducible repeat (first | apply Kd.V_alloc | apply Kd.V_drewN | apply Kd.V_drew)); exact HO_3.out) gb107 (Nat.le_of_eq hg.symm)) hb); have n1_ := Aside0.mk (Kd.V_below (Kd.V_elderB (by (with_reducible repeat (first | apply Kd.V_alloc | apply Kd.V_drewN | apply Kd.V_drew)); exact HO_8.out) gb107 (Nat.le_of_eq hg.symm)) hb); have n2_ := Aside0.mk (Kd.V_below (Kd.V_elderB (by (with_reducible repeat (first | apply Kd.V_alloc | apply Kd.V_drewN | apply Kd.V_drew)); exact HL106_1.out) gb107 (Nat.le_of_eq hg.symm)) hb); have n3_ := Aside0.mk (Kd.C_below (by repeat (first | (with_reducible exact HR106_1.out) | (with_reducible refine Kd.C_alloc ?_ _) | (with_reducible refine Kd.C_drewN ?_ _) | (with_reducible refine Kd.C_drew ?_) | exact HR106_1.out)) hb); have n4_ := Aside0.mk (below_step (by repeat (first | (with_reducible first | exact HB.out | apply below_alloc | apply pw_below_drewN | apply below_drew1) | exact HB.out)) hb); have n5_ := Aside0.mk (hbox); have n6_ := Aside0.mk ((by rw [hg]; exact (below_size (by repeat (first | (with_reducible first | exact HB.out | apply below_alloc | apply pw_below_drewN | apply below_drew1) | exact HB.out))) : w.heap.size ≤ gb107)); have n7_ := Aside0.mk ((by rw [hg]; exact (below_size (by repeat (first | (with_reducible first | exact HB.out | apply below_alloc | apply pw_below_drewN | apply below_drew1) | exact HB.out))) : w.heap.size ≤ gb107)); clear HO_3; clear HO_8; clear HL106_1; clear HR106_1; clear HB; have HO_3 := n0_; have HO_8 := n1_; have HL106_1 := n2_; have HR106_1 := n3_; have HB := n4_; have BK107 := n5_; have GW107 := n6_; have GE107 := n7_; clear n0_ n1_ n2_ n3_ n4_ n5_ n6_ n7_; clear hb hbox hg; have hcz16_0 : w15.cell? ⟨gb107, 0, none⟩ = some (.int .u8 0) := (blk_cell BK107.out 0).trans rfl; have hcz16_1 : w15.cell? ⟨gb107, 1, none⟩ = some (.slice none 0 0) := (blk_cell BK107.out 1).trans rfl; have hfz16_0 := blk_frozen BK107.out 0; have hfz16_1 := blk_frozen BK107.out 1; obtain ⟨Ao17, co17, eo17⟩ := Kd.V_slice HO_3.out; subst eo17) | ((with_reducible refine gate_callee (f := 41) rfl ?_); refine goesL_ (some 18) rfl rfl Try.func41 (by kernel_rfl) rfl #[.int .i64 x10_1, .slice Ao17 x3_1.length co17] rfl (by (try simp only [List.map_toArray, List.map_cons, List.map_nil]); first | done | rfl | (simp only [List.length_drop, List.length_take]; rfl)) ?_; (with_reducible refine (block_expects.calls x10_1 _ _ x3_1 t108 t109 _ ?side1 ?side2 A5.out).mono ?_); (case side1 => refine (Kd.V_reads' (e := 5) (base := w.heap.size) (ok := fun k_ => ((P0_ k_ ∨ w.heap.size ≤ k_) ∧ k_ ≠ gb107)) (n := x3_1.length) (c := co17) ?_).2.2; exact (by (with_reducible repeat (first | apply Kd.V_alloc | apply Kd.V_drewN | apply Kd.V_drew)); exact (Kd.V_mono (Kd.V_far (p := ⟨gb107, 1, none⟩) (Kd.V_far (p := ⟨gb107, 0, none⟩) (Kd.V_mono HO_3.out (fun k_ hk => (⟨hk, hk.2⟩ : _ ∧ k_ ≠ gb107))) (fun _ hk => hk.2) (.int .u8 ((rd_T53 l0 x10_1).f0))) (fun _ hk => hk.2) (.slice A106_1 ((rd_T53 l0 x10_1).f1).length c106_1)) (fun _ h_ => h_.1)))); (case side2 => exact (Kd.V_reads' HO_3.out).2.1); rintro e w' ⟨rfl, ⟨nd, rfl⟩⟩; refine ⟨_, rfl, ?_⟩))
        go_ret
        exact ⟨by first | rfl | (simp [errW_none, errW_some] <;> rfl) | (simp [*, errW_none, errW_some] <;> rfl), by repeat (first | (with_reducible first | exact HB.out | apply below_alloc | apply pw_below_drewN | apply below_drew1 | refine below_set ?_ GE107.out) | exact HB.out)⟩
      ·rw [if_neg c6] at H
       have c6b0 : (((rd_T53 l0 x10_1).f0) == t108) = false := beq_eq_false_iff_ne.mpr c6
       have c6b1 : (((rd_T53 l0 x10_1).f0) != t108) = true := bne_iff_ne.mpr c6
       obtain rfl := Option.some.inj H
       have p106 : 0 ≤ (x10_1 : Int) := of_decide_eq_true (by first | (with_reducible assumption) | assumption)
       have q106 : x10_1 < (l0.length : Int) := of_decide_eq_true (by first | (with_reducible assumption) | assumption)
       obtain ⟨ad106, A106_1, c106_1, e106, hx106_0, hx106_1, hl106_1, hi106_1⟩ := at_T53 (Kd.V_reads' HO_8.out).2.2 x10_1 p106 q106
       cases e106
       obtain ⟨ce106, hce106, hMe106, hcc106⟩ := Kd.V_get HO_8.out z53 x10_1 p106 (by first | exact q106 | exact of_decide_eq_true (by first | (with_reducible assumption) | assumption) | (have e_ := (Kd.V_reads' HO_8.out).1; omega))
       obtain ⟨ua106_1, uc106_1, rfl, ul106_1, ge106_1⟩ := k53_openF hMe106
       have hv106_1 := hcc106 1 _ rfl
       rw [add_field _ _ 1 (by omega)] at hv106_1
       replace hv106_1 := Option.some.inj (hv106_1.symm.trans hx106_1)
       injection hv106_1 with hva_ hvn_ hvc_
       rw [hva_] at ge106_1
       rw [hvc_] at ul106_1
       have HL106_1 := Aside0.mk (show Kd.V (Kd.int .u8) 5 _ w.heap.size _ _ ((rd_T53 l0 x10_1).f1) from Kd.V_mk ul106_1 ge106_1)
       clear hva_ hvn_ hvc_ ge106_1 ul106_1
       clear hcc106 hce106
       have HR106_1 := Aside0.mk hi106_1
       have HC106_1 := Aside0.mk hl106_1
       clear hi106_1 hl106_1
       replace p106 := eq_true p106
       replace q106 := eq_true q106
       go_wp2_with (first | ((with_reducible refine gate_dst (N := 5) rfl ?_); (try (refine gate_guard (by rfl) ?_; dsimp only)); refine box_event ?hg (N := 5) ?hd (cs := #[.int .u8 0, .slice none 0 0]) (t := 53) ?hr ?_; (case hd => rfl); (case hg => rfl); (case hr => first | (go_simp; done) | (go_simp; rfl)); intro gb107 hg w18 hbox hb; have n0_ := Aside0.mk (Kd.V_below (Kd.V_elderB (by (with_reducible repeat (first | apply Kd.V_alloc | apply Kd.V_drewN | apply Kd.V_drew)); exact HO_3.out) gb107 (Nat.le_of_eq hg.symm)) hb); have n1_ := Aside0.mk (Kd.V_below (Kd.V_elderB (by (with_reducible repeat (first | apply Kd.V_alloc | apply Kd.V_drewN | apply Kd.V_drew)); exact HO_8.out) gb107 (Nat.le_of_eq hg.symm)) hb); have n2_ := Aside0.mk (Kd.V_below (Kd.V_elderB (by (with_reducible repeat (first | apply Kd.V_alloc | apply Kd.V_drewN | apply Kd.V_drew)); exact HL106_1.out) gb107 (Nat.le_of_eq hg.symm)) hb); have n3_ := Aside0.mk (Kd.C_below (by repeat (first | (with_reducible exact HR106_1.out) | (with_reducible refine Kd.C_alloc ?_ _) | (with_reducible refine Kd.C_drewN ?_ _) | (with_reducible refine Kd.C_drew ?_) | exact HR106_1.out)) hb); have n4_ := Aside0.mk (below_step (by repeat (first | (with_reducible first | exact HB.out | apply below_alloc | apply pw_below_drewN | apply below_drew1) | exact HB.out)) hb); have n5_ := Aside0.mk (hbox); have n6_ := Aside0.mk ((by rw [hg]; exact (below_size (by repeat (first | (with_reducible first | exact HB.out | apply below_alloc | apply pw_below_drewN | apply below_drew1) | exact HB.out))) : w.heap.size ≤ gb107)); have n7_ := Aside0.mk ((by rw [hg]; exact (below_size (by repeat (first | (with_reducible first | exact HB.out | apply below_alloc | apply pw_below_drewN | apply below_drew1) | exact HB.out))) : w.heap.size ≤ gb107)); clear HO_3; clear HO_8; clear HL106_1; clear HR106_1; clear HB; have HO_3 := n0_; have HO_8 := n1_; have HL106_1 := n2_; have HR106_1 := n3_; have HB := n4_; have BK107 := n5_; have GW107 := n6_; have GE107 := n7_; clear n0_ n1_ n2_ n3_ n4_ n5_ n6_ n7_; clear hb hbox hg; have hcz19_0 : w18.cell? ⟨gb107, 0, none⟩ = some (.int .u8 0) := (blk_cell BK107.out 0).trans rfl; have hcz19_1 : w18.cell? ⟨gb107, 1, none⟩ = some (.slice none 0 0) := (blk_cell BK107.out 1).trans rfl; have hfz19_0 := blk_frozen BK107.out 0; have hfz19_1 := blk_frozen BK107.out 1; obtain ⟨Ao20, co20, eo20⟩ := Kd.V_slice HO_3.out; subst eo20) | ((with_reducible refine gate_callee (f := 41) rfl ?_); refine goesL_ (some 18) rfl rfl Try.func41 (by kernel_rfl) rfl #[.int .i64 x10_1, .slice Ao20 x3_1.length co20] rfl (by (try simp only [List.map_toArray, List.map_cons, List.map_nil]); first | done | rfl | (simp only [List.length_drop, List.length_take]; rfl)) ?_; (with_reducible refine (block_expects.calls x10_1 _ _ x3_1 t108 t109 _ ?side1 ?side2 A5.out).mono ?_); (case side1 => refine (Kd.V_reads' (e := 5) (base := w.heap.size) (ok := fun k_ => ((P0_ k_ ∨ w.heap.size ≤ k_) ∧ k_ ≠ gb107)) (n := x3_1.length) (c := co20) ?_).2.2; exact (by (with_reducible repeat (first | apply Kd.V_alloc | apply Kd.V_drewN | apply Kd.V_drew)); exact (Kd.V_mono (Kd.V_far (p := ⟨gb107, 1, none⟩) (Kd.V_far (p := ⟨gb107, 0, none⟩) (Kd.V_mono HO_3.out (fun k_ hk => (⟨hk, hk.2⟩ : _ ∧ k_ ≠ gb107))) (fun _ hk => hk.2) (.int .u8 ((rd_T53 l0 x10_1).f0))) (fun _ hk => hk.2) (.slice A106_1 ((rd_T53 l0 x10_1).f1).length c106_1)) (fun _ h_ => h_.1)))); (case side2 => exact (Kd.V_reads' HO_3.out).2.1); rintro e w' ⟨rfl, ⟨nd, rfl⟩⟩; refine ⟨_, rfl, ?_⟩))
       go_ret
       exact ⟨by first | rfl | (simp [errW_none, errW_some] <;> rfl) | (simp [*, errW_none, errW_some] <;> rfl), by repeat (first | (with_reducible first | exact HB.out | apply below_alloc | apply pw_below_drewN | apply below_drew1 | refine below_set ?_ GE107.out) | exact HB.out)⟩
     ·rw [if_neg c4] at H
      exact absurd H (by simp)
    ·rw [if_neg c3] at H
     exact absurd H (by simp)
   ·rw [if_neg c2] at H
    have c2b0 : decide (x10_1 < (l0.length : Int)) = false := decide_eq_false c2
    clear c2
    obtain rfl := Option.some.inj H
    go_wp2
    go_ret
    exact ⟨by first | rfl | (simp [errW_none, errW_some] <;> rfl) | (simp [*, errW_none, errW_some] <;> rfl), by repeat (first | (with_reducible first | exact HB.out | apply below_alloc | apply pw_below_drewN | apply below_drew1) | exact HB.out)⟩

/-! ### seal_Step: function 42 -/
def seal_Step.l0 : Nat → Int → Int → Int → Option (Int)
 | 0, _, _, _ => none
 | k + 1, x0, x1, x7 => if x7 < 8 then (if 0 ≤ x7 then (seal_Step.l0 k (Go.bits .xor .u16 (Go.bits .or .u16 (x0 / 2) (IntKind.u16.wrap ((IntKind.u16.wrap (Go.bits .and .u8 (shr .u8 x1 x7) 1)) * 32768))) (IntKind.u16.wrap (33800 * (Go.bits .and .u16 x0 1)))) x1 (wrap64 (x7 + 1))) else (none)) else (some x0)
def seal_Step.f (k : Nat) (a0 : Int) (a1 : Int) : Option (Int) := seal_Step.l0 k a0 a1 0
set_option maxHeartbeats 8000000 in
set_option maxRecDepth 100000 in
theorem seal_Step.calls (k : Nat) (a0 : Int) (a1 : Int) (r : Int) (w : World) (h : seal_Step.f k a0 a1 = some r) :
  Calls Try.prog 42 #[.int .u16 a0, .int .u8 a1] w fun e w' => e = .returned (.int .u16 r) ∧ Drawn0 w w' := by
 have H : (seal_Step.l0 k a0 a1 0) = some r := h
 clear h
 have H' := Aside0.mk H
 clear H
 go_enter Try.func42, Try.ntmps42
 go_wp2
 go_loopg [0, 7] k (fun kq v0 v7 w' => ∃ (x0_1 : Int) (x7_1 : Int), v0 = .int .u16 x0_1 ∧ v7 = .int .i64 x7_1 ∧ Aside0 (seal_Step.l0 kq x0_1 a1 x7_1 = some r) ∧ Aside0 (kq ≤ k) ∧ Drawn0 w w')
 case atStart => exact ⟨(a0), (0), (by first | rfl | (simp; done) | (simp [*]; done)), (by first | rfl | (simp; done) | (simp [*]; done)), H', ⟨Nat.le_refl _⟩, by repeat (first | exact Drawn0.refl _ | apply Drawn0.step)⟩
 case round =>
  clear H'
  try clear p2
  obtain ⟨x0_1, x7_1, rfl, rfl, HA, HK1, ⟨m1, rfl⟩⟩ := hrel
  cases gk with
  | zero => exact absurd HA.out (by simp [seal_Step.l0])
  | succ k1 =>
   have H := HA.out
   clear HA
   simp only [seal_Step.l0] at H
   by_cases c3 : x7_1 < 8
   ·rw [if_pos c3] at H
    have c3b0 : decide (x7_1 < 8) = true := decide_eq_true c3
    clear c3
    by_cases c4 : 0 ≤ x7_1
    ·rw [if_pos c4] at H
     have c4b0 := eq_true c4
     have c4b1 : decide (0 ≤ x7_1) = true := decide_eq_true c4
     clear c4
     obtain ⟨ji5, hji5⟩ : ∃ j_ : Int, (shr .u8 a1 x7_1) = j_ := ⟨_, rfl⟩
     replace H : (seal_Step.l0 k1 (Go.bits .xor .u16 (Go.bits .or .u16 (x0_1 / 2) (IntKind.u16.wrap ((IntKind.u16.wrap (Go.bits .and .u8 (ji5) 1)) * 32768))) (IntKind.u16.wrap (33800 * (Go.bits .and .u16 x0_1 1)))) a1 (wrap64 (x7_1 + 1))) = some r := by first | (rw [hji5] at H; exact H) | (simp only [hji5] at H ⊢; exact H)
     have hji5_ : (a1 / 2 ^ min x7_1.toNat 8) = ji5 := hji5
     have hji5z : x7_1 ≤ 8 → (a1 / 2 ^ x7_1.toNat) = ji5 := shr_small hji5
     have H' := Aside0.mk H
     clear H
     go_wp2
     go_roundg k1
     case measure => have := HK1.out; omega
     case rel => exact ⟨(Go.bits .xor .u16 (Go.bits .or .u16 (x0_1 / 2) (IntKind.u16.wrap ((IntKind.u16.wrap (Go.bits .and .u8 (ji5) 1)) * 32768))) (IntKind.u16.wrap (33800 * (Go.bits .and .u16 x0_1 1)))), (wrap64 (x7_1 + 1)), (by first | rfl | (simp; done) | (simp only [← hji5] <;> (first | rfl | simp)) | (simp [*]; done)), (by first | rfl | (simp; done) | (simp [*]; done)), H', ⟨by have := HK1.out; omega⟩, by repeat (first | exact Drawn0.refl _ | apply Drawn0.step)⟩
    ·rw [if_neg c4] at H
     exact absurd H (by simp)
   ·rw [if_neg c3] at H
    have c3b0 : decide (x7_1 < 8) = false := decide_eq_false c3
    clear c3
    obtain rfl := Option.some.inj H
    go_wp2
    go_ret
    exact ⟨by first | rfl | (simp; done) | (simp [*]; done), by repeat (first | exact Drawn0.refl _ | apply Drawn0.step)⟩

/-! ### seal_Short: function 34 -/
def seal_Short.l0 : Nat → Int → List Int → Int → Int → Option (Int)
 | 0, _, _, _, _ => none
 | k + 1, x3, x6, x7, x8 => if x8 < x7 then (if 0 ≤ x8 then (if x8 < (x6.length : Int) then ((seal_Step.f k x3 (rd x6 x8)).bind fun t111 => (seal_Short.l0 k t111 x6 x7 (wrap64 (x8 + 1)))) else (none)) else (none)) else ((seal_Step.f k x3 0).bind fun t112 => ((seal_Step.f k t112 0).bind fun t113 => (some t113)))
def seal_Short.f (k : Nat) (l0 : List Int) : Option (Int) := seal_Short.l0 k 32768 l0 (l0.length : Int) 0
set_option maxHeartbeats 8000000 in
set_option maxRecDepth 100000 in
theorem seal_Short.calls (k : Nat) (A0 : Option Addr) (c0 : Nat) (l0 : List Int) (r : Int) (w : World) (hr0 : Kd.C (Kd.int .u8) w A0 l0.length l0) (hc0 : l0.length ≤ c0) (h : seal_Short.f k l0 = some r) :
  Calls Try.prog 34 #[.slice A0 l0.length c0] w fun e w' => e = .returned (.int .u16 r) ∧ Drawn0 w w' := by
 have HR0 := Aside0.mk hr0
 have HC0 := Aside0.mk hc0
 clear hr0 hc0
 have H : (seal_Short.l0 k 32768 l0 (l0.length : Int) 0) = some r := h
 clear h
 have H' := Aside0.mk H
 clear H
 go_enter Try.func34, Try.ntmps34
 go_wp2
 go_loopg [3, 8] k (fun kq v3 v8 w' => ∃ (x3_1 : Int) (x8_1 : Int), v3 = .int .u16 x3_1 ∧ v8 = .int .i64 x8_1 ∧ Aside0 (seal_Short.l0 kq x3_1 l0 (l0.length : Int) x8_1 = some r) ∧ Aside0 (kq ≤ k) ∧ Drawn0 w w')
 case atStart => exact ⟨(32768), (0), (by first | rfl | (simp; done) | (simp [*]; done)), (by first | rfl | (simp; done) | (simp [*]; done)), H', ⟨Nat.le_refl _⟩, by repeat (first | exact Drawn0.refl _ | apply Drawn0.step)⟩
 case round =>
  clear H'
  obtain ⟨x3_1, x8_1, rfl, rfl, HA, HK1, ⟨m1, rfl⟩⟩ := hrel
  cases gk with
  | zero => exact absurd HA.out (by simp [seal_Short.l0])
  | succ k1 =>
   have H := HA.out
   clear HA
   simp only [seal_Short.l0] at H
   by_cases c2 : x8_1 < (l0.length : Int)
   ·rw [if_pos c2] at H
    have c2b0 : decide (x8_1 < (l0.length : Int)) = true := decide_eq_true c2
    clear c2
    by_cases c3 : 0 ≤ x8_1
    ·rw [if_pos c3] at H
     have c3b0 : decide (0 ≤ x8_1) = true := decide_eq_true c3
     clear c3
     by_cases c4 : x8_1 < (l0.length : Int)
     ·rw [if_pos c4] at H
      have c4b0 : decide (x8_1 < (l0.length : Int)) = true := decide_eq_true c4
      clear c4
      replace H := Option.bind_eq_some_iff.mp H
      obtain ⟨t111, A50, H⟩ := H
      replace H : (seal_Short.l0 k1 t111 l0 (l0.length : Int) (wrap64 (x8_1 + 1))) = some r := H
      have A5 := Aside0.mk A50
      clear A50
      have H' := Aside0.mk H
      clear H
      have p110 : 0 ≤ (x8_1 : Int) := of_decide_eq_true (by first | (with_reducible assumption) | assumption)
      have q110 : x8_1 < (l0.length : Int) := of_decide_eq_true (by first | (with_reducible assumption) | assumption)
      obtain ⟨ad110, e110, hx110_0⟩ := Kd.at_int HR0.out x8_1 p110 q110
      cases e110
      replace p110 := eq_true p110
      replace q110 := eq_true q110
      go_wp2_with (first | ((with_reducible refine gate_callee (f := 42) rfl ?_); refine goesL_ (some 14) rfl rfl Try.func42 (by kernel_rfl) rfl #[.int .u16 x3_1, .int .u8 (rd l0 x8_1)] rfl (by (try simp only [List.map_toArray, List.map_cons, List.map_nil]); first | done | rfl | (simp only [List.length_drop, List.length_take]; rfl)) ?_; (with_reducible refine (seal_Step.calls k1 x3_1 (rd l0 x8_1) t111 _ A5.out).mono ?_); rintro e w' ⟨rfl, ⟨nd, rfl⟩⟩; refine ⟨_, rfl, ?_⟩))
      go_roundg k1
      case measure => have := HK1.out; omega
      case rel => exact ⟨(t111), (wrap64 (x8_1 + 1)), (by first | rfl | (simp; done) | (simp [*]; done)), (by first | rfl | (simp; done) | (simp [*]; done)), H', ⟨by have := HK1.out; omega⟩, by repeat (first | exact Drawn0.refl _ | apply Drawn0.step)⟩
     ·rw [if_neg c4] at H
      exact absurd H (by simp)
    ·rw [if_neg c3] at H
     exact absurd H (by simp)
   ·rw [if_neg c2] at H
    have c2b0 : decide (x8_1 < (l0.length : Int)) = false := decide_eq_false c2
    clear c2
    replace H := Option.bind_eq_some_iff.mp H
    obtain ⟨t112, A60, H⟩ := H
    replace H : ((seal_Step.f k1 t112 0).bind fun t113 => (some t113)) = some r := H
    have A6 := Aside0.mk A60
    clear A60
    replace H := Option.bind_eq_some_iff.mp H
    obtain ⟨t113, A70, H⟩ := H
    replace H : (some t113) = some r := H
    have A7 := Aside0.mk A70
    clear A70
    obtain rfl := Option.some.inj H
    go_wp2_with (first | ((with_reducible refine gate_callee (f := 42) rfl ?_); refine goesL_ (some 17) rfl rfl Try.func42 (by kernel_rfl) rfl #[.int .u16 x3_1, .int .u8 0] rfl (by (try simp only [List.map_toArray, List.map_cons, List.map_nil]); first | done | rfl | (simp only [List.length_drop, List.length_take]; rfl)) ?_; (with_reducible refine (seal_Step.calls k1 x3_1 0 t112 _ A6.out).mono ?_); rintro e w' ⟨rfl, ⟨nd, rfl⟩⟩; refine ⟨_, rfl, ?_⟩) | ((with_reducible refine gate_callee (f := 42) rfl ?_); refine goesL_ (some 18) rfl rfl Try.func42 (by kernel_rfl) rfl #[.int .u16 t112, .int .u8 0] rfl (by (try simp only [List.map_toArray, List.map_cons, List.map_nil]); first | done | rfl | (simp only [List.length_drop, List.length_take]; rfl)) ?_; (with_reducible refine (seal_Step.calls k1 t112 0 t113 _ A7.out).mono ?_); rintro e w' ⟨rfl, ⟨nd, rfl⟩⟩; refine ⟨_, rfl, ?_⟩))
    go_ret
    exact ⟨by first | rfl | (simp; done) | (simp [*]; done), by repeat (first | exact Drawn0.refl _ | apply Drawn0.step)⟩

end Go.Proofs.Ytgahcipgglkkhaa.PGrooveReads
