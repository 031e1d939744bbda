-- made by a program of this repo (wip/patch_print.py); not trusted: Lean checks it
import Derived.Test.YtgpgoffnfdjhcaaPBlockWantsx0
namespace Go.Proofs.Ytgpgoffnfdjhcaa.PBlockWants
open Go.RowKit Go.Proofs.YtgpgoffnfdjhcaaW.PrintWords Go.Proofs.YtgpgoffnfdjhcaaW.PrintLast Go.Proofs.YtgpgoffnfdjhcaaW.PrintMore
attribute [local go_sem] max2_int min2_int max_two min_two max_three min_three max_four min_four   -- for this text's walks alone
set_option linter.unusedVariables false
set_option linter.unusedSimpArgs false

-- NOT PRINTED: function 35 (block_Block_35)

/-! ### block_Block_27: function 27, by hand -/
def block_Block_27.f (l0 : List (List (S43))) : Option (List (S43)) := if (l0.map List.length).sum ≤ 4398046511104 ∧ l0.length ≤ 4398046511104 then some l0.flatten else none
theorem block_Block_27.getD_take {α : Type} (l : List (List α)) (i : Nat) (h : i < l.length) : l.take (i + 1) = l.take i ++ [l.getD i []] := by
  rw [List.take_succ_eq_append_getElem h, List.getD_eq_getElem?_getD, List.getElem?_eq_getElem h]; rfl
theorem block_Block_27.sum_take {α : Type} (l : List (List α)) (i : Nat) (h : i < l.length) : ((l.take (i + 1)).map List.length).sum = ((l.take i).map List.length).sum + (l.getD i []).length := by
  rw [block_Block_27.getD_take l i h]; simp
theorem block_Block_27.sum_le {α : Type} (l : List (List α)) (i : Nat) : ((l.take i).map List.length).sum ≤ (l.map List.length).sum := by
  have h : (l.map List.length).sum = ((l.take i).map List.length).sum + ((l.drop i).map List.length).sum := by rw [← List.sum_append, ← List.map_append, List.take_append_drop]
  omega
theorem block_Block_27.flat_take {α : Type} (l : List (List α)) (i : Nat) (h : i < l.length) : (l.take (i + 1)).flatten = (l.take i).flatten ++ l.getD i [] := by
  rw [block_Block_27.getD_take l i h]; simp
theorem block_Block_27.flat_len {α : Type} (l : List (List α)) : l.flatten.length = (l.map List.length).sum := by simp
set_option maxHeartbeats 4000000 in
theorem block_Block_27.grow (n : Int) (w : World) (h0 : 0 ≤ n) (hl : n ≤ 4398046511104) :
    Calls Try.prog 35 #[.slice none 0 0, .int .i64 n] w fun e w' => ∃ v, e = .returned v ∧ Kd.N k43 43 w' w.heap.size (fun k => w.heap.size ≤ k) v [] ∧ Below w.heap.size w w' := by
  by_cases hn : n = 0
  · subst hn
    go_enter Try.func35, Try.ntmps35
    go_wp2
    go_ret
    exact ⟨_, rfl, Kd.N_nil _ _ _ _ _, Below.refl _ _⟩
  · have t1 : decide (n < 0) = false := decide_eq_false (by omega)
    have t2 : decide (0 < n) = true := decide_eq_true (by omega)
    have HN := Aside0.mk (show 0 < n by omega)
    clear hn
    go_enter Try.func35, Try.ntmps35
    go_wp2_with ((with_reducible refine gate_dst (N := 22) rfl ?_); (try (refine gate_guard (by rfl) ?_; dsimp only)); refine Kd.N_append_zeros k43 (w0 := w) w.heap.size rfl (.tmp 20) (.tmp 21) 29 3 43 (.agg #[(.int .u8 0), (.slice none 0 0)]) 32 rfl Try.underlying29 Try.underlying3 info43 rfl (by decide) (by omega) (.slice none 0 0) [] (⟨0, []⟩ : S43) n (fun k => w.heap.size ≤ k) rfl rfl ?aZ ?aF ?aO h0 ?aB ?aS ?aL ?_; (case aZ => exact k43_mkF _ _ (⟨0, []⟩ : S43) (Nat.le_refl _) (Kd.F_nil _ _ _)); (case aF => exact fun k hk => hk); (case aO => exact Kd.N_nil _ _ _ _ _); (case aB => exact Below.refl _ _); (case aS => exact Nat.le_refl _); (case aL => simp; omega); intro v1 w1 ho hb hg hat; have HO := Aside0.mk ho; have HB := Aside0.mk hb; clear ho hb hg hat; obtain ⟨A1, c1, e1⟩ := Kd.N_slice HO.out; subst e1; have q1 : (List.replicate n.toNat (⟨0, []⟩ : S43)).length = n.toNat := List.length_replicate)
    go_ret
    exact ⟨_, rfl, Kd.N_take HO.out (m := 0) (Nat.zero_le _), HB.out⟩
set_option maxHeartbeats 8000000 in
set_option maxRecDepth 100000 in
theorem block_Block_27.calls (P0_ : Nat → Prop) (A0 : Option Addr) (c0 : Nat) (l0 : List (List (S43))) (r : List (S43)) (w : World) (hs0 : Kd.V (Kd.slice 43 k43) 29 w w.heap.size (fun k_ => P0_ k_) (.slice A0 l0.length c0) l0) (h : block_Block_27.f l0 = some r) :
    Calls Try.prog 27 #[.slice A0 l0.length c0] w fun e w' => ∃ v0_ : Value, e = .returned (v0_) ∧ Kd.N k43 43 w' w.heap.size (fun k_ => (P0_ k_ ∨ w.heap.size ≤ k_)) v0_ r ∧ Below w.heap.size w w' := by
  unfold block_Block_27.f at h
  by_cases hs : (l0.map List.length).sum ≤ 4398046511104 ∧ l0.length ≤ 4398046511104
  · rw [if_pos hs] at h
    obtain rfl := Option.some.inj h
    clear h
    have HS := Aside0.mk hs
    have HV := Aside0.mk (Kd.V_bound hs0)
    have HL := Aside0.mk (fun i => block_Block_27.sum_le l0 i)
    have hl0 : (l0.length : Int) ≤ 4398046511104 := by omega
    clear hs hs0
    go_enter Try.func27, Try.ntmps27
    go_wp2
    go_loopg [3, 11] l0.length (fun kq v3 v11 w' => ∃ i : Nat, v3 = .int .i64 (((l0.take i).map List.length).sum : Nat) ∧ v11 = .int .i64 (i : Int) ∧ Aside0 (i + kq = l0.length) ∧ w = w')
    case atStart => exact ⟨0, rfl, rfl, ⟨by omega⟩, rfl⟩
    case round =>
      obtain ⟨i, rfl, rfl, HI, rfl⟩ := hrel
      by_cases hi : i < l0.length
      · obtain ⟨ad, cs, eA, hcl, hK, hcc, _⟩ := Kd.F_get (Kd.V_F HV.out) [] (i : Int) (by omega) (by omega)
        obtain ⟨A1, c1, rfl, hl1, hF1⟩ := Kd.FK_slice_open hK
        subst eA
        have hx : w.cell? (ad.add i) = some (.slice A1 (l0.getD i []).length c1) := by
          have := hcc 0 _ rfl
          simpa [Kd.slice] using this
        have hsum := block_Block_27.sum_take l0 i hi
        have hle := HL.out (i + 1)
        have hS := HS.out
        have HI2 := Aside0.mk (show (i + 1) + (gk - 1) = l0.length ∧ gk - 1 < gk by have := HI.out; omega)
        have HSUM := Aside0.mk hsum
        have hb : (((l0.take i).map List.length).sum : Int) + ((l0.getD i []).length : Int) ≤ 4398046511104 := by omega
        have hb0 : 0 ≤ (((l0.take i).map List.length).sum : Int) + ((l0.getD i []).length : Int) := by omega
        have d1 : decide ((i : Int) < (l0.length : Int)) = true := decide_eq_true (by omega)
        have d2 : decide ((((l0.take i).map List.length).sum : Int) + ((l0.getD i []).length : Int) < 0) = false := decide_eq_false (by omega)
        have p1 := eq_true (show (0 : Int) ≤ (i : Int) by omega)
        have p2 := eq_true (show (i : Int) < (l0.length : Int) by omega)
        clear hsum hle hS hcc hK hcl hF1 hl1
        generalize hg1 : ((l0.take i).map List.length).sum = sm at *
        generalize hg2 : (l0.getD i []).length = ln at *
        go_wp2
        go_roundg (gk - 1)
        case measure => have := HI2.out.2; omega
        case rel =>
          exact ⟨i + 1, by rw [HSUM.out]; first | rfl | (push_cast; rfl) | (congr 1; push_cast; omega), by first | rfl | (push_cast; rfl), ⟨HI2.out.1⟩, rfl⟩
      · have hin : i = l0.length := by have := HI.out; omega
        subst hin
        rw [List.take_length]
        have hS := HS.out
        have d1 : decide ((l0.length : Int) < (l0.length : Int)) = false := decide_eq_false (by omega)
        have n0 : (0 : Int) ≤ ((l0.map List.length).sum : Nat) := by omega
        have HG := Aside0.mk (block_Block_27.grow (((l0.map List.length).sum : Nat) : Int) w n0 (by omega))
        have HFL := Aside0.mk (block_Block_27.flat_len l0)
        clear hi HI hS
        generalize hsm : (l0.map List.length).sum = sm at *
        go_wp2_with (go_at_call 35; refine HG.out.mono ?_; rintro e w1 ⟨v1, rfl, ho, hb⟩; have HO := Aside0.mk ho; have HB := Aside0.mk hb; clear ho hb)
        go_loopg [6, 27] l0.length (fun kq v6 v27 w' => ∃ i : Nat, v27 = .int .i64 (i : Int) ∧ Aside0 (i + kq = l0.length) ∧ Aside0 (Kd.N k43 43 w' w.heap.size (fun k_ => (P0_ k_ ∨ w.heap.size ≤ k_)) v6 (l0.take i).flatten) ∧ Aside0 (Below w.heap.size w w'))
        case atStart => exact ⟨0, rfl, ⟨by omega⟩, ⟨Kd.N_mono HO.out (fun k hk => .inr hk)⟩, HB⟩
        case round =>
          obtain ⟨i, rfl, HI, HO2, HB2⟩ := hrel
          by_cases hi : i < l0.length
          · obtain ⟨ad, cs, eA, hcl, hK, hcc, _⟩ := Kd.F_get (Kd.V_F HV.out) [] (i : Int) (by omega) (by omega)
            obtain ⟨A1, c1, rfl, hl1, hF1⟩ := Kd.FK_slice_open hK
            subst eA
            have hx : wr.cell? (ad.add i) = some (.slice A1 (l0.getD i []).length c1) := by
              have := hcc 0 _ rfl
              refine pw_cell_below HB2.out ?_
              simpa [Kd.slice] using this
            have hF2 := Aside0.mk (Kd.F_below hF1 HB2.out)
            have hle := HL.out (i + 1)
            have hsum := block_Block_27.sum_take l0 i hi
            have HT := Aside0.mk (block_Block_27.flat_take l0 i hi)
            have hS := HS.out
            have hfl := block_Block_27.flat_len (l0.take i)
            have HLEN := Aside0.mk (show ((l0.take i).flatten.length + (l0.getD i []).length) * 32 ≤ 140737488355328 by rw [hfl]; omega)
            have HI2 := Aside0.mk (show (i + 1) + (gk - 1) = l0.length ∧ gk - 1 < gk by have := HI.out; omega)
            have d1 : decide ((i : Int) < (l0.length : Int)) = true := decide_eq_true (by omega)
            have p1 := eq_true (show (0 : Int) ≤ (i : Int) by omega)
            have p2 := eq_true (show (i : Int) < (l0.length : Int) by omega)
            clear hsum hle hS hcc hK hcl hF1 hl1 hfl
            simp only [Int.toNat_natCast] at hF2
            generalize hg2 : l0.getD i [] = ys at *
            go_wp2_with ((with_reducible refine gate_dst (N := 33) rfl ?_); (try (refine gate_guard (by rfl) ?_; dsimp only)); refine Kd.N_append_rows k43 (w0 := w) w.heap.size rfl (.tmp 31) (.tmp 32) 29 43 (.agg #[(.int .u8 0), (.slice none 0 0)]) 32 rfl Try.underlying29 info43 rfl (by decide) (by omega) u6 (l0.take i).flatten ys A1 ys.length c1 (fun k_ => (P0_ k_ ∨ w.heap.size ≤ k_)) (fun k => P0_ k ∧ k < w.heap.size) rfl rfl HO2.out hF2.out ?aK ?aF HB2.out ?aS HLEN.out ?_; (case aK => exact fun k hk => ⟨.inl hk.1, fun he => by have := Kd.N_base HO2.out k he.symm; have := hk.2; omega⟩); (case aF => exact fun k hk => .inr (Nat.le_trans (below_size HB2.out) hk)); (case aS => exact below_size HB2.out); intro v1 w2 ho hb hg hat; rw [← HT.out] at ho; have HO3 := Aside0.mk ho; have HB3 := Aside0.mk hb; clear ho hb hg hat)
            go_roundg (gk - 1)
            case measure => have := HI2.out.2; omega
            case rel => exact ⟨i + 1, by first | rfl | (push_cast; rfl), ⟨HI2.out.1⟩, HO3, HB3⟩
          · have hin : i = l0.length := by have := HI.out; omega
            subst hin
            have d1 : decide ((l0.length : Int) < (l0.length : Int)) = false := decide_eq_false (by omega)
            rw [List.take_length] at HO2
            clear hi HI
            go_wp2
            go_ret
            exact ⟨_, rfl, HO2.out, HB2.out⟩
  · rw [if_neg hs] at h
    cases h

/-! ### block_Disk: function 13, by hand -/
def block_Disk.head (a0 : ByteArray) (a1 : Int) : List Int := (H.spl (List.replicate 55 0) 0 ((bytesOf a0).take 14)).set 20 a1
theorem block_Disk.head_len (a0 : ByteArray) (a1 : Int) : (block_Disk.head a0 a1).length = 55 := by
  have hl := H.spl_length (List.replicate 55 (0 : Int)) ((bytesOf a0).take 14) 0 (by simp; omega)
  unfold block_Disk.head
  rw [List.length_set, hl]; simp
def block_Disk.f (a0 : ByteArray) (a1 : Int) (l2 : List (List (S43))) : Option (List (S43)) :=
  if (l2.map List.length).sum ≤ 1000000000 ∧ l2.length ≤ 1000000000 then some ([⟨1, block_Disk.head a0 a1⟩, ⟨2, [(l2.length : Int) % 256]⟩] ++ l2.flatten) else none
set_option maxHeartbeats 400000 in
set_option maxRecDepth 100000 in
theorem block_Disk.calls (a0 : ByteArray) (a1 : Int) (P2_ : Nat → Prop) (A2 : Option Addr) (c2 : Nat) (l2 : List (List (S43))) (r : List (S43)) (w : World) (hs2 : Kd.V (Kd.slice 43 k43) 29 w w.heap.size (fun k_ => P2_ k_) (.slice A2 l2.length c2) l2) (h : block_Disk.f a0 a1 l2 = some r) :
    Calls Try.prog 13 #[.string a0, .int .u8 a1, .slice A2 l2.length c2] w fun e w' => ∃ v0_ : Value, e = .returned (v0_) ∧ Kd.N k43 43 w' w.heap.size (fun k_ => (P2_ k_ ∨ w.heap.size ≤ k_)) v0_ r ∧ Below w.heap.size w w' := by
  unfold block_Disk.f at h
  by_cases hl : (l2.map List.length).sum ≤ 1000000000 ∧ l2.length ≤ 1000000000
  · rw [if_pos hl] at h
    obtain rfl := Option.some.inj h
    have HV := Aside0.mk (Kd.V_bound hs2)
    have HL := Aside0.mk hl
    have hl2 : (l2.length : Int) ≤ 1000000000 := by omega
    have HSZ5 := Aside0.mk (show (Try.prog.info? 5).map (·.size) = some 1 by kernel_rfl)
    clear hs2 h hl
    go_enter Try.func13, Try.ntmps13
    go_wp2_with (first
      | ((with_reducible refine gate_dst (N := 8) rfl ?_); refine H.makeRow rfl 22 5 _ _ rfl 55 rfl rfl Try.underlying22 info5 (by decide) ?_; intro w1 hrow hb hsz; have ROW := Aside0.mk hrow; have HB := Aside0.mk hb; have HSZ := Aside0.mk hsz; clear hrow hb hsz)
      | ((with_reducible refine gate_dst (N := 12) rfl ?_); refine H.copyStr rfl (.tmp 10) (.tmp 11) 22 9 rfl 5 Try.underlying22 HSZ5.out w.heap.size 0 14 55 a0 rfl rfl 5 _ ROW.out (by simp) w.heap.size w HB.out (Nat.le_refl _) ?_; intro w2 hrow hb hk hz; have ROW2 := Aside0.mk hrow; have HB2 := Aside0.mk hb; have hsl := H.spl_length (List.replicate 55 0) ((bytesOf a0).take 14) 0 (by simp; omega); rw [show (List.replicate 55 (0 : Int)).length = 55 by simp] at hsl; have d20 := hrow.cell 20 (by rw [hsl]; decide); have e20 := hrow.frozen 20; clear hrow hb hk hz hsl; generalize (H.spl (List.replicate 55 0) 0 ((bytesOf a0).take 14)).getD 20 0 = x20 at *))
    have ROW3 := Aside0.mk (show H.Row 5 (w2.setCell ⟨w.heap.size, 20, none⟩ (.int .u8 a1)) w.heap.size (block_Disk.head a0 a1) from ROW2.out.set_ 20 a1)
    have HB3 := Aside0.mk (HB2.out.setCell (p := ⟨w.heap.size, 20, none⟩) (Nat.le_refl _) (.int .u8 a1))
    have HZ3 := Aside0.mk (show w2.heap.size = (w2.setCell ⟨w.heap.size, 20, none⟩ (.int .u8 a1)).heap.size by simp)
    clear ROW2 HB2 ROW HB HSZ d20 e20
    generalize w2.setCell ⟨w.heap.size, 20, none⟩ (.int .u8 a1) = Wa at *
    rw [HZ3.out]
    have HSa := Aside0.mk (below_size HB3.out)
    -- the row of one byte
    have ROWn := Aside0.mk (H.Row.alloc_new Wa 5 [(l2.length : Int) % 256] #[Value.int .u8 ((l2.length : Int) % 256)] rfl)
    have hb4 := below_alloc (Below.refl Wa.heap.size Wa) (.cells #[Value.int .u8 ((l2.length : Int) % 256)] 5)
    have HZ4 := Aside0.mk (show (Wa.alloc (.cells #[Value.int .u8 ((l2.length : Int) % 256)] 5)).heap.size = Wa.heap.size + 1 by simp)
    have ROW4 := Aside0.mk (ROW3.out.below hb4)
    have HB4 := Aside0.mk (HB3.out.trans (hb4.mono HSa.out))
    clear hb4 ROW3
    generalize Wa.alloc (.cells #[Value.int .u8 ((l2.length : Int) % 256)] 5) = Wb at *
    have hl1 := block_Disk.head_len a0 a1
    have HF1 := Aside0.mk (show Kd.F (Kd.int .u8) Wb (fun k => w.heap.size ≤ k) (some ⟨w.heap.size, 0, none⟩) (block_Disk.head a0 a1).length (block_Disk.head a0 a1) from Kd.F_mono (Kd.V_F (ROW4.out.V 0 (by rw [hl1]; decide))) (fun k hk => Nat.le_of_eq hk.symm))
    have HF2 := Aside0.mk (show Kd.F (Kd.int .u8) Wb (fun k => w.heap.size ≤ k) (some ⟨Wa.heap.size, 0, none⟩) [(l2.length : Int) % 256].length [(l2.length : Int) % 256] from Kd.F_mono (Kd.V_F (ROWn.out.V 0 (by simp))) (fun k hk => by rw [hk]; exact HSa.out))
    have hrep := ((Reps.none (Kd.FK k43 Wb (fun k => w.heap.size ≤ k)) k43.sz).snoc (p := (⟨1, block_Disk.head a0 a1⟩ : S43)) (k43_mkF Wb _ (⟨1, block_Disk.head a0 a1⟩ : S43) (Nat.le_refl _) HF1.out) rfl).snoc (p := (⟨2, [(l2.length : Int) % 256]⟩ : S43)) (k43_mkF Wb _ (⟨2, [(l2.length : Int) % 256]⟩ : S43) (Nat.le_refl _) HF2.out) rfl
    simp only [List.nil_append, List.cons_append] at hrep
    have hN := H.litN k43 w.heap.size 43 hrep (fun _ h => h) (below_size HB4.out) (below_size HB4.out) (by simp)
    rw [HZ4.out, hl1] at hN
    have HN := Aside0.mk hN
    have hb5 := below_alloc (Below.refl Wb.heap.size Wb) (.cells #[Value.int .u8 1, Value.slice (some ⟨w.heap.size, 0, none⟩) 55 55, Value.int .u8 2, Value.slice (some ⟨Wa.heap.size, 0, none⟩) 1 1] 43)
    have HB5 := Aside0.mk (HB4.out.trans (hb5.mono (below_size HB4.out)))
    clear hrep hN hb5 HF1 HF2 ROW4 ROWn hl1
    have HN2 := Aside0.mk (show Kd.N k43 43 (Wb.alloc (.cells #[Value.int .u8 1, Value.slice (some ⟨w.heap.size, 0, none⟩) 55 55, Value.int .u8 2, Value.slice (some ⟨Wa.heap.size, 0, none⟩) 1 1] 43)) w.heap.size (fun k => w.heap.size ≤ k) (.slice (some ⟨Wa.heap.size + 1, 0, none⟩) 2 2) [⟨1, block_Disk.head a0 a1⟩, ⟨2, [(l2.length : Int) % 256]⟩] from HN.out)
    clear HN
    generalize Wb.alloc (.cells #[Value.int .u8 1, Value.slice (some ⟨w.heap.size, 0, none⟩) 55 55, Value.int .u8 2, Value.slice (some ⟨Wa.heap.size, 0, none⟩) 1 1] 43) = Wc at *
    obtain ⟨fl, hfl⟩ : ∃ fl, fl = l2.flatten := ⟨_, rfl⟩
    have HFL := Aside0.mk hfl
    have HFN := Aside0.mk (show fl.length ≤ 1000000000 by rw [hfl]; have := HL.out; simp; omega)
    refine (block_Block_27.calls _ A2 c2 l2 fl Wc (Kd.V_below HV.out HB5.out) (by unfold block_Block_27.f; rw [if_pos (by have := HL.out; omega), hfl])).mono ?_
    clear hfl
    rintro e w3 ⟨v3, rfl, hn, hb⟩
    have HN3 := Aside0.mk (Kd.N_below HN2.out hb)
    have HS5 := Aside0.mk (below_size HB5.out)
    have HB6 := Aside0.mk (HB5.out.trans (hb.mono HS5.out))
    have HM := Aside0.mk (Kd.N_mono (ok' := fun k => P2_ k ∧ k < w.heap.size ∨ w.heap.size ≤ k) hn (fun k hk => hk.elim (fun h => .inl h) (fun h => .inr (Nat.le_trans HS5.out h))))
    clear hn hb HN2
    obtain ⟨A3, c3, e3⟩ := Kd.N_slice HM.out
    subst e3
    have hrep := ((Reps.none (Kd.FK (Kd.slice 43 k43) w3 (fun k => P2_ k ∧ k < w.heap.size ∨ w.heap.size ≤ k)) (Kd.slice 43 k43).sz).snoc (p := ([⟨1, block_Disk.head a0 a1⟩, ⟨2, [(l2.length : Int) % 256]⟩] : List (S43))) (Kd.FK_slice_mk (c := 2) (by simp) (Kd.F_mono (Kd.N_F HN3.out) (fun k hk => .inr hk))) rfl).snoc (p := fl) (Kd.FK_slice_mk (Kd.N_reads' HM.out).2.1 (Kd.N_F HM.out)) rfl
    simp only [List.nil_append, List.cons_append] at hrep
    have HR2 := Aside0.mk (Kd.N_V (base' := 0) (H.litN (Kd.slice 43 k43) w.heap.size 29 hrep (fun _ h => h) (.inr (below_size HB6.out)) (below_size HB6.out) (by simp)))
    clear hrep
    have hb7 := below_alloc (Below.refl w3.heap.size w3) (.cells #[Value.slice (some ⟨Wa.heap.size + 1, 0, none⟩) 2 2, Value.slice A3 fl.length c3] 29)
    have HB7 := Aside0.mk (HB6.out.trans (hb7.mono (below_size HB6.out)))
    clear hb7
    go_wp2_with fail
    have HV7 := Aside0.mk (show Kd.V (Kd.slice 43 k43) 29 (w3.alloc (.cells #[Value.slice (some ⟨Wa.heap.size + 1, 0, none⟩) 2 2, Value.slice A3 fl.length c3] 29)) 0 (fun k => P2_ k ∧ k < w.heap.size ∨ w.heap.size ≤ k) (.slice (some ⟨w3.heap.size, 0, none⟩) [[(⟨1, block_Disk.head a0 a1⟩ : S43), ⟨2, [(l2.length : Int) % 256]⟩], fl].length 2) [[⟨1, block_Disk.head a0 a1⟩, ⟨2, [(l2.length : Int) % 256]⟩], fl] from HR2.out)
    refine (block_Block_27.calls _ (some ⟨w3.heap.size, 0, none⟩) 2 [[⟨1, block_Disk.head a0 a1⟩, ⟨2, [(l2.length : Int) % 256]⟩], fl] ([⟨1, block_Disk.head a0 a1⟩, ⟨2, [(l2.length : Int) % 256]⟩] ++ fl) _ HV7.out (by unfold block_Block_27.f; rw [if_pos (by have := HFN.out; simp; omega)]; simp)).mono ?_
    rintro e w4 ⟨v4, rfl, hn, hb⟩
    have HZ7 := Aside0.mk (below_size HB7.out)
    have HB8 := Aside0.mk (HB7.out.trans (hb.mono HZ7.out))
    have HE := Aside0.mk (Kd.N_mono (ok' := fun k => P2_ k ∨ w.heap.size ≤ k) (Kd.N_lower hn HZ7.out) (fun k hk => hk.elim (fun h => h.elim (fun h => .inl h.1) .inr) (fun h => .inr (Nat.le_trans HZ7.out h))))
    clear hn hb HV7 HM HN3 HR2
    go_wp2_with fail
    go_ret
    exact ⟨_, rfl, by rw [← HFL.out]; exact HE.out, HB8.out⟩
  · rw [if_neg hl] at h
    cases h

/-! ### block_expects: function 28 -/
def block_expects.f (a0 : Int) (l1 : List Int) : Option (Int × Int) := if a0 ≥ 512 then (some (0, 0)) else (if a0 = 0 then (some (1, 55)) else (if a0 = 1 then (some (2, 1)) else (if (Int.tmod a0 2) = 0 then (some (3, 15)) else (if 12 < (l1.length : Int) then (if 13 < (l1.length : Int) then (some (4, Go.bits .or .i64 (wrap64 (rd l1 12)) (wrap64 ((wrap64 (rd l1 13)) * 256)))) else (none)) else (none)))))
set_option maxHeartbeats 8000000 in
set_option maxRecDepth 100000 in
theorem block_expects.calls (a0 : Int) (A1 : Option Addr) (c1 : Nat) (l1 : List Int) (r1 : Int) (r2 : Int) (w : World) (hr1 : Kd.C (Kd.int .u8) w A1 l1.length l1) (hc1 : l1.length ≤ c1) (h : block_expects.f a0 l1 = some (r1, r2)) :
    Calls Try.prog 28 #[.int .i64 a0, .slice A1 l1.length c1] w fun e w' => e = .returned (.tuple #[.int .u8 r1, .int .i64 r2]) ∧ Drawn0 w w' := by
  have HR1 := Aside0.mk hr1
  have HC1 := Aside0.mk hc1
  clear hr1 hc1
  have H : (if a0 ≥ 512 then (some (0, 0)) else (if a0 = 0 then (some (1, 55)) else (if a0 = 1 then (some (2, 1)) else (if (Int.tmod a0 2) = 0 then (some (3, 15)) else (if 12 < (l1.length : Int) then (if 13 < (l1.length : Int) then (some (4, Go.bits .or .i64 (wrap64 (rd l1 12)) (wrap64 ((wrap64 (rd l1 13)) * 256)))) else (none)) else (none)))))) = some (r1, r2) := h
  clear h
  by_cases c3 : a0 ≥ 512
  · rw [if_pos c3] at H
    have c3b0 : decide (512 ≤ a0) = true := decide_eq_true c3
    clear c3
    simp only [Option.some.injEq, Prod.mk.injEq] at H
    obtain ⟨rfl, rfl⟩ := H
    go_enter Try.func28, Try.ntmps28
    go_wp2
    repeat (go_quiet (fail); try go_wp2)
    go_ret2
    exact ⟨by first | rfl | (simp; done) | (simp [*]; done), by repeat (first | exact Drawn0.refl _ | apply Drawn0.step)⟩
  · rw [if_neg c3] at H
    have c3b0 : decide (512 ≤ a0) = false := decide_eq_false c3
    clear c3
    by_cases c4 : a0 = 0
    · rw [if_pos c4] at H
      have c4b0 : (a0 == 0) = true := beq_iff_eq.mpr c4
      have c4b1 : (a0 != 0) = false := bne_eq_false_iff_eq.mpr c4
      clear c4
      simp only [Option.some.injEq, Prod.mk.injEq] at H
      obtain ⟨rfl, rfl⟩ := H
      go_enter Try.func28, Try.ntmps28
      go_wp2
      repeat (go_quiet (fail); try go_wp2)
      go_ret2
      exact ⟨by first | rfl | (simp; done) | (simp [*]; done), by repeat (first | exact Drawn0.refl _ | apply Drawn0.step)⟩
    · rw [if_neg c4] at H
      have c4b0 : (a0 == 0) = false := beq_eq_false_iff_ne.mpr c4
      have c4b1 : (a0 != 0) = true := bne_iff_ne.mpr c4
      by_cases c5 : a0 = 1
      · rw [if_pos c5] at H
        have c5b0 : (a0 == 1) = true := beq_iff_eq.mpr c5
        have c5b1 : (a0 != 1) = false := bne_eq_false_iff_eq.mpr c5
        clear c5
        simp only [Option.some.injEq, Prod.mk.injEq] at H
        obtain ⟨rfl, rfl⟩ := H
        go_enter Try.func28, Try.ntmps28
        go_wp2
        repeat (go_quiet (fail); try go_wp2)
        go_ret2
        exact ⟨by first | rfl | (simp; done) | (simp [*]; done), by repeat (first | exact Drawn0.refl _ | apply Drawn0.step)⟩
      · rw [if_neg c5] at H
        have c5b0 : (a0 == 1) = false := beq_eq_false_iff_ne.mpr c5
        have c5b1 : (a0 != 1) = true := bne_iff_ne.mpr c5
        by_cases c6 : (Int.tmod a0 2) = 0
        · rw [if_pos c6] at H
          have c6b0 : ((Int.tmod a0 2) == 0) = true := beq_iff_eq.mpr c6
          have c6b1 : ((Int.tmod a0 2) != 0) = false := bne_eq_false_iff_eq.mpr c6
          clear c6
          simp only [Option.some.injEq, Prod.mk.injEq] at H
          obtain ⟨rfl, rfl⟩ := H
          go_enter Try.func28, Try.ntmps28
          go_wp2
          repeat (go_quiet (fail); try go_wp2)
          go_ret2
          exact ⟨by first | rfl | (simp; done) | (simp [*]; done), by repeat (first | exact Drawn0.refl _ | apply Drawn0.step)⟩
        · rw [if_neg c6] at H
          have c6b0 : ((Int.tmod a0 2) == 0) = false := beq_eq_false_iff_ne.mpr c6
          have c6b1 : ((Int.tmod a0 2) != 0) = true := bne_iff_ne.mpr c6
          by_cases c7 : 12 < (l1.length : Int)
          · rw [if_pos c7] at H
            have c7b0 : decide (12 < (l1.length : Int)) = true := decide_eq_true c7
            have c7b1 : decide (12 < l1.length) = true := decide_eq_true (by omega)
            clear c7
            by_cases c8 : 13 < (l1.length : Int)
            · rw [if_pos c8] at H
              have c8b0 : decide (13 < (l1.length : Int)) = true := decide_eq_true c8
              have c8b1 : decide (13 < l1.length) = true := decide_eq_true (by omega)
              clear c8
              simp only [Option.some.injEq, Prod.mk.injEq] at H
              obtain ⟨rfl, rfl⟩ := H
              have p101 : 0 ≤ (12 : Int) := (by omega)
              have q101 : 12 < (l1.length : Int) := of_decide_eq_true (by first | (with_reducible assumption) | assumption)
              obtain ⟨ad101, e101, hx101_0⟩ := Kd.at_int HR1.out 12 p101 q101
              cases e101
              (try simp only [show (12 : Int).toNat = 12 from rfl, Nat.reduceMul, Nat.reduceEqDiff, Go.Addr.add, ↓reduceIte] at hx101_0)
              have qi101 : (12 < l1.length) = True := eq_true (by omega)
              (try rw [show ((12 : Int)).toNat = 12 from rfl] at hx101_0)
              replace p101 := eq_true p101
              replace q101 := eq_true q101
              have p102 : 0 ≤ (13 : Int) := (by omega)
              have q102 : 13 < (l1.length : Int) := of_decide_eq_true (by first | (with_reducible assumption) | assumption)
              obtain ⟨ad102, e102, hx102_0⟩ := Kd.at_int HR1.out 13 p102 q102
              obtain rfl : ad101 = ad102 := (by injection e102)
              (try simp only [show (13 : Int).toNat = 13 from rfl, Nat.reduceMul, Nat.reduceEqDiff, Go.Addr.add, ↓reduceIte] at hx102_0)
              have qi102 : (13 < l1.length) = True := eq_true (by omega)
              (try rw [show ((13 : Int)).toNat = 13 from rfl] at hx102_0)
              replace p102 := eq_true p102
              replace q102 := eq_true q102
              go_enter Try.func28, Try.ntmps28
              go_wp2
              repeat (go_quiet (fail); try go_wp2)
              go_ret2
              exact ⟨by first | rfl | (simp; done) | (simp [*]; done), by repeat (first | exact Drawn0.refl _ | apply Drawn0.step)⟩
            · rw [if_neg c8] at H
              exact absurd H (by simp)
          · rw [if_neg c7] at H
            exact absurd H (by simp)

/-! ### block_Right: function 17 -/
def block_Right.l0 : Nat → List Int → List (S43) → Int → Int → Option (Bool)
  | 0, _, _, _, _ => none
  | k + 1, x3, x8, x9, x10 => if x10 < x9 then (if 0 ≤ x10 then (if x10 < (x8.length : Int) then ((block_expects.f x10 x3).bind fun bt105 => (if ((rd_T43 x8 x10).f0) = bt105.1 then (if (((rd_T43 x8 x10).f1).length : Int) = bt105.2 then (if bt105.1 = 0 then (some false) else (block_Right.l0 k ((rd_T43 x8 x10).f1) x8 x9 (wrap64 (x10 + 1)))) else (some false)) else (some false))) else (none)) else (none)) else (some true)
def block_Right.f (k : Nat) (l0 : List (S43)) : Option (Bool) := block_Right.l0 k ([] : List Int) l0 (l0.length : Int) 0
theorem block_Right.mono_l : ∀ k, (∀ y0 y1 y2 y3, LeO (block_Right.l0 k y0 y1 y2 y3) (block_Right.l0 (k + 1) y0 y1 y2 y3))
  | 0 => fun _ _ _ _ r h => by simp [block_Right.l0] at h
  | k + 1 => by
    have ih0 := block_Right.mono_l k
    · intro y0 y1 y2 y3
      unfold block_Right.l0
      repeat' first
      | (with_reducible exact ih0 _ _ _ _)
      | (with_reducible exact LeO.refl _)
      | (with_reducible exact LeO.none _)
      | (with_reducible refine LeO.ite ?_ ?_)
      | (with_reducible refine LeO.bind ?_ (fun _ => ?_))
      | exact ih0 _ _ _ _
      | exact LeO.none _
      | refine LeO.ite ?_ ?_
      | refine LeO.bind ?_ (fun _ => ?_)
theorem block_Right.mono : ∀ a0 k, LeO (block_Right.f k a0) (block_Right.f (k + 1) a0) := by
  intro a0 k
  have ih0 := block_Right.mono_l k
  unfold block_Right.f
  repeat' first
      | (with_reducible exact ih0 _ _ _ _)
      | (with_reducible exact LeO.refl _)
      | (with_reducible exact LeO.none _)
      | (with_reducible refine LeO.ite ?_ ?_)
      | (with_reducible refine LeO.bind ?_ (fun _ => ?_))
      | exact ih0 _ _ _ _
      | exact LeO.none _
      | refine LeO.ite ?_ ?_
      | refine LeO.bind ?_ (fun _ => ?_)
set_option maxHeartbeats 8000000 in
set_option maxRecDepth 100000 in
theorem block_Right.calls (k : Nat) (P0_ : Nat → Prop) (A0 : Option Addr) (c0 : Nat) (l0 : List (S43)) (r : Bool) (w : World) (hs0 : Kd.V k43 43 w w.heap.size (fun k_ => P0_ k_) (.slice A0 l0.length c0) l0) (h : block_Right.f k l0 = some r) :
    Calls Try.prog 17 #[.slice A0 l0.length c0] w fun e w' => e = .returned (.bool r) ∧ Below w.heap.size w w' := by
  have hu43 := Try.underlying43
  have HO0 := Aside0.mk (show Kd.V k43 43 w w.heap.size (fun k_ => (P0_ k_ ∨ w.heap.size ≤ k_)) (.slice A0 l0.length c0) l0 from Kd.V_mono hs0 (fun k_ hk => .inl hk))
  have HB := Aside0.mk (Below.refl w.heap.size w)
  have H : (block_Right.l0 k ([] : List Int) l0 (l0.length : Int) 0) = some r := h
  clear h
  have H' := Aside0.mk H
  clear H
  go_enter Try.func17, Try.ntmps17
  go_wp2
  go_loopg [3, 10] k (fun kq v3 v10 w' => ∃ (x3_1 : List Int) (x10_1 : Int), v10 = .int .i64 x10_1 ∧ Aside0 (block_Right.l0 kq x3_1 l0 (l0.length : Int) x10_1 = some r) ∧ Aside0 (kq ≤ k) ∧ Aside0 (Kd.V (Kd.int .u8) 5 w' w.heap.size (fun k_ => (P0_ k_ ∨ w.heap.size ≤ k_)) v3 x3_1) ∧ Aside0 (Kd.V k43 43 w' w.heap.size (fun k_ => (P0_ k_ ∨ w.heap.size ≤ k_)) (.slice A0 l0.length c0) l0) ∧ Aside0 (Below w.heap.size w w'))
  case atStart => exact ⟨(([] : List Int)), (0), (by first | rfl | (simp; done) | (simp [*]; done)), H', ⟨Nat.le_refl _⟩, ⟨Kd.V_nil _ _ _ _ _⟩, ⟨by (with_reducible repeat (first | apply Kd.V_alloc | apply Kd.V_drewN | apply Kd.V_drew)); exact HO0.out⟩, ⟨by repeat (first | (with_reducible first | exact HB.out | apply below_alloc | apply pw_below_drewN | apply below_drew1) | exact HB.out)⟩⟩
  case round =>
    clear H'
    try clear c1
    obtain ⟨x3_1, x10_1, rfl, HA, HK1, HO_3, HO_8, HB⟩ := hrel
    cases gk with
    | zero => exact absurd HA.out (by simp [block_Right.l0])
    | succ k1 =>
      have H := HA.out
      clear HA
      simp only [block_Right.l0] at H
      by_cases c2 : x10_1 < (l0.length : Int)
      · rw [if_pos c2] at H
        have c2b0 : decide (x10_1 < (l0.length : Int)) = true := decide_eq_true c2
        clear c2
        by_cases c3 : 0 ≤ x10_1
        · rw [if_pos c3] at H
          have c3b0 : decide (0 ≤ x10_1) = true := decide_eq_true c3
          clear c3
          by_cases c4 : x10_1 < (l0.length : Int)
          · rw [if_pos c4] at H
            have c4b0 : decide (x10_1 < (l0.length : Int)) = true := decide_eq_true c4
            clear c4
            replace H := Option.bind_eq_some_iff.mp H
            obtain ⟨⟨t105, t106⟩, A50, H⟩ := H
            replace H : (if ((rd_T43 l0 x10_1).f0) = t105 then (if (((rd_T43 l0 x10_1).f1).length : Int) = t106 then (if t105 = 0 then (some false) else (block_Right.l0 k1 ((rd_T43 l0 x10_1).f1) l0 (l0.length : Int) (wrap64 (x10_1 + 1)))) else (some false)) else (some false)) = some r := H
            have A5 := Aside0.mk A50
            clear A50
            by_cases c6 : ((rd_T43 l0 x10_1).f0) = t105
            · rw [if_pos c6] at H
              have c6b0 : (((rd_T43 l0 x10_1).f0) == t105) = true := beq_iff_eq.mpr c6
              have c6b1 : (((rd_T43 l0 x10_1).f0) != t105) = false := bne_eq_false_iff_eq.mpr c6
              clear c6
              by_cases c7 : (((rd_T43 l0 x10_1).f1).length : Int) = t106
              · rw [if_pos c7] at H
                have c7b0 : ((((rd_T43 l0 x10_1).f1).length : Int) == t106) = true := beq_iff_eq.mpr c7
                have c7b1 : ((((rd_T43 l0 x10_1).f1).length : Int) != t106) = false := bne_eq_false_iff_eq.mpr c7
                clear c7
                by_cases c8 : t105 = 0
                · rw [if_pos c8] at H
                  have c8b0 : (t105 == 0) = true := beq_iff_eq.mpr c8
                  have c8b1 : (t105 != 0) = false := bne_eq_false_iff_eq.mpr c8
                  clear c8
                  obtain rfl := Option.some.inj H
                  have p103 : 0 ≤ (x10_1 : Int) := of_decide_eq_true (by first | (with_reducible assumption) | assumption)
                  have q103 : x10_1 < (l0.length : Int) := of_decide_eq_true (by first | (with_reducible assumption) | assumption)
                  obtain ⟨ad103, A103_1, c103_1, e103, hx103_0, hx103_1, hl103_1, hi103_1⟩ := at_T43 (Kd.V_reads' HO_8.out).2.2 x10_1 p103 q103
                  cases e103
                  obtain ⟨ce103, hce103, hMe103, hcc103⟩ := Kd.V_get HO_8.out z43 x10_1 p103 (by first | exact q103 | exact of_decide_eq_true (by first | (with_reducible assumption) | assumption) | (have e_ := (Kd.V_reads' HO_8.out).1; omega))
                  obtain ⟨ua103_1, uc103_1, rfl, ul103_1, ge103_1⟩ := k43_openF hMe103
                  have hv103_1 := hcc103 1 _ rfl
                  rw [add_field _ _ 1 (by omega)] at hv103_1
                  replace hv103_1 := Option.some.inj (hv103_1.symm.trans hx103_1)
                  injection hv103_1 with hva_ hvn_ hvc_
                  rw [hva_] at ge103_1
                  rw [hvc_] at ul103_1
                  have HL103_1 := Aside0.mk (show Kd.V (Kd.int .u8) 5 _ w.heap.size _ _ ((rd_T43 l0 x10_1).f1) from Kd.V_mk ul103_1 ge103_1)
                  clear hva_ hvn_ hvc_ ge103_1 ul103_1
                  clear hcc103 hce103
                  have HR103_1 := Aside0.mk hi103_1
                  have HC103_1 := Aside0.mk hl103_1
                  clear hi103_1 hl103_1
                  replace p103 := eq_true p103
                  replace q103 := eq_true q103
                  go_wp2_with (first | ((with_reducible refine gate_dst (N := 5) rfl ?_); (try (refine gate_guard (by rfl) ?_; dsimp only)); refine box_event ?hg (N := 5) ?hd (cs := #[.int .u8 0, .slice none 0 0]) (t := 43) ?hr ?_; (case hd => rfl); (case hg => rfl); (case hr => first | (go_simp; done) | (go_simp; rfl)); intro gb104 hg w9 hbox hb; have n0_ := Aside0.mk (Kd.V_below (Kd.V_elderB (by (with_reducible repeat (first | apply Kd.V_alloc | apply Kd.V_drewN | apply Kd.V_drew)); exact HO_3.out) gb104 (Nat.le_of_eq hg.symm)) hb); have n1_ := Aside0.mk (Kd.V_below (Kd.V_elderB (by (with_reducible repeat (first | apply Kd.V_alloc | apply Kd.V_drewN | apply Kd.V_drew)); exact HO_8.out) gb104 (Nat.le_of_eq hg.symm)) hb); have n2_ := Aside0.mk (Kd.V_below (Kd.V_elderB (by (with_reducible repeat (first | apply Kd.V_alloc | apply Kd.V_drewN | apply Kd.V_drew)); exact HL103_1.out) gb104 (Nat.le_of_eq hg.symm)) hb); have n3_ := Aside0.mk (Kd.C_below (by repeat (first | (with_reducible exact HR103_1.out) | (with_reducible refine Kd.C_alloc ?_ _) | (with_reducible refine Kd.C_drewN ?_ _) | (with_reducible refine Kd.C_drew ?_) | exact HR103_1.out)) hb); have n4_ := Aside0.mk (below_step (by repeat (first | (with_reducible first | exact HB.out | apply below_alloc | apply pw_below_drewN | apply below_drew1) | exact HB.out)) hb); have n5_ := Aside0.mk (hbox); have n6_ := Aside0.mk ((by rw [hg]; exact (below_size (by repeat (first | (with_reducible first | exact HB.out | apply below_alloc | apply pw_below_drewN | apply below_drew1) | exact HB.out))) : w.heap.size ≤ gb104)); have n7_ := Aside0.mk ((by rw [hg]; exact (below_size (by repeat (first | (with_reducible first | exact HB.out | apply below_alloc | apply pw_below_drewN | apply below_drew1) | exact HB.out))) : w.heap.size ≤ gb104)); clear HO_3; clear HO_8; clear HL103_1; clear HR103_1; clear HB; have HO_3 := n0_; have HO_8 := n1_; have HL103_1 := n2_; have HR103_1 := n3_; have HB := n4_; have BK104 := n5_; have GW104 := n6_; have GE104 := n7_; clear n0_ n1_ n2_ n3_ n4_ n5_ n6_ n7_; clear hb hbox hg; have hcz10_0 : w9.cell? ⟨gb104, 0, none⟩ = some (.int .u8 0) := (blk_cell BK104.out 0).trans rfl; have hcz10_1 : w9.cell? ⟨gb104, 1, none⟩ = some (.slice none 0 0) := (blk_cell BK104.out 1).trans rfl; have hfz10_0 := blk_frozen BK104.out 0; have hfz10_1 := blk_frozen BK104.out 1; obtain ⟨Ao11, co11, eo11⟩ := Kd.V_slice HO_3.out; subst eo11) | ((with_reducible refine gate_callee (f := 28) rfl ?_); refine goesL_ (some 18) rfl rfl Try.func28 (by kernel_rfl) rfl #[.int .i64 x10_1, .slice Ao11 x3_1.length co11] rfl (by (try simp only [List.map_toArray, List.map_cons, List.map_nil]); first | done | rfl | (simp only [List.length_drop, List.length_take]; rfl)) ?_; (with_reducible refine (block_expects.calls x10_1 _ _ x3_1 t105 t106 _ ?side1 ?side2 A5.out).mono ?_); (case side1 => refine (Kd.V_reads' (e := 5) (base := w.heap.size) (ok := fun k_ => ((P0_ k_ ∨ w.heap.size ≤ k_) ∧ k_ ≠ gb104)) (n := x3_1.length) (c := co11) ?_).2.2; exact (by (with_reducible repeat (first | apply Kd.V_alloc | apply Kd.V_drewN | apply Kd.V_drew)); exact (Kd.V_mono (Kd.V_far (p := ⟨gb104, 1, none⟩) (Kd.V_far (p := ⟨gb104, 0, none⟩) (Kd.V_mono HO_3.out (fun k_ hk => (⟨hk, hk.2⟩ : _ ∧ k_ ≠ gb104))) (fun _ hk => hk.2) (.int .u8 ((rd_T43 l0 x10_1).f0))) (fun _ hk => hk.2) (.slice A103_1 ((rd_T43 l0 x10_1).f1).length c103_1)) (fun _ h_ => h_.1)))); (case side2 => exact (Kd.V_reads' HO_3.out).2.1); rintro e w' ⟨rfl, ⟨nd, rfl⟩⟩; refine ⟨_, rfl, ?_⟩))
                  go_ret
                  exact ⟨by first | rfl | (simp [errW_none, errW_some] <;> rfl) | (simp [*, errW_none, errW_some] <;> rfl), by repeat (first | (with_reducible first | exact HB.out | apply below_alloc | apply pw_below_drewN | apply below_drew1 | refine below_set ?_ GE104.out) | exact HB.out)⟩
                · rw [if_neg c8] at H
                  have c8b0 : (t105 == 0) = false := beq_eq_false_iff_ne.mpr c8
                  have c8b1 : (t105 != 0) = true := bne_iff_ne.mpr c8
                  have H' := Aside0.mk H
                  clear H
                  have p103 : 0 ≤ (x10_1 : Int) := of_decide_eq_true (by first | (with_reducible assumption) | assumption)
                  have q103 : x10_1 < (l0.length : Int) := of_decide_eq_true (by first | (with_reducible assumption) | assumption)
                  obtain ⟨ad103, A103_1, c103_1, e103, hx103_0, hx103_1, hl103_1, hi103_1⟩ := at_T43 (Kd.V_reads' HO_8.out).2.2 x10_1 p103 q103
                  cases e103
                  obtain ⟨ce103, hce103, hMe103, hcc103⟩ := Kd.V_get HO_8.out z43 x10_1 p103 (by first | exact q103 | exact of_decide_eq_true (by first | (with_reducible assumption) | assumption) | (have e_ := (Kd.V_reads' HO_8.out).1; omega))
                  obtain ⟨ua103_1, uc103_1, rfl, ul103_1, ge103_1⟩ := k43_openF hMe103
                  have hv103_1 := hcc103 1 _ rfl
                  rw [add_field _ _ 1 (by omega)] at hv103_1
                  replace hv103_1 := Option.some.inj (hv103_1.symm.trans hx103_1)
                  injection hv103_1 with hva_ hvn_ hvc_
                  rw [hva_] at ge103_1
                  rw [hvc_] at ul103_1
                  have HL103_1 := Aside0.mk (show Kd.V (Kd.int .u8) 5 _ w.heap.size _ _ ((rd_T43 l0 x10_1).f1) from Kd.V_mk ul103_1 ge103_1)
                  clear hva_ hvn_ hvc_ ge103_1 ul103_1
                  clear hcc103 hce103
                  have HR103_1 := Aside0.mk hi103_1
                  have HC103_1 := Aside0.mk hl103_1
                  clear hi103_1 hl103_1
                  replace p103 := eq_true p103
                  replace q103 := eq_true q103
                  go_wp2_with (first | ((with_reducible refine gate_dst (N := 5) rfl ?_); (try (refine gate_guard (by rfl) ?_; dsimp only)); refine box_event ?hg (N := 5) ?hd (cs := #[.int .u8 0, .slice none 0 0]) (t := 43) ?hr ?_; (case hd => rfl); (case hg => rfl); (case hr => first | (go_simp; done) | (go_simp; rfl)); intro gb104 hg w12 hbox hb; have n0_ := Aside0.mk (Kd.V_below (Kd.V_elderB (by (with_reducible repeat (first | apply Kd.V_alloc | apply Kd.V_drewN | apply Kd.V_drew)); exact HO_3.out) gb104 (Nat.le_of_eq hg.symm)) hb); have n1_ := Aside0.mk (Kd.V_below (Kd.V_elderB (by (with_reducible repeat (first | apply Kd.V_alloc | apply Kd.V_drewN | apply Kd.V_drew)); exact HO_8.out) gb104 (Nat.le_of_eq hg.symm)) hb); have n2_ := Aside0.mk (Kd.V_below (Kd.V_elderB (by (with_reducible repeat (first | apply Kd.V_alloc | apply Kd.V_drewN | apply Kd.V_drew)); exact HL103_1.out) gb104 (Nat.le_of_eq hg.symm)) hb); have n3_ := Aside0.mk (Kd.C_below (by repeat (first | (with_reducible exact HR103_1.out) | (with_reducible refine Kd.C_alloc ?_ _) | (with_reducible refine Kd.C_drewN ?_ _) | (with_reducible refine Kd.C_drew ?_) | exact HR103_1.out)) hb); have n4_ := Aside0.mk (below_step (by repeat (first | (with_reducible first | exact HB.out | apply below_alloc | apply pw_below_drewN | apply below_drew1) | exact HB.out)) hb); have n5_ := Aside0.mk (hbox); have n6_ := Aside0.mk ((by rw [hg]; exact (below_size (by repeat (first | (with_reducible first | exact HB.out | apply below_alloc | apply pw_below_drewN | apply below_drew1) | exact HB.out))) : w.heap.size ≤ gb104)); have n7_ := Aside0.mk ((by rw [hg]; exact (below_size (by repeat (first | (with_reducible first | exact HB.out | apply below_alloc | apply pw_below_drewN | apply below_drew1) | exact HB.out))) : w.heap.size ≤ gb104)); clear HO_3; clear HO_8; clear HL103_1; clear HR103_1; clear HB; have HO_3 := n0_; have HO_8 := n1_; have HL103_1 := n2_; have HR103_1 := n3_; have HB := n4_; have BK104 := n5_; have GW104 := n6_; have GE104 := n7_; clear n0_ n1_ n2_ n3_ n4_ n5_ n6_ n7_; clear hb hbox hg; have hcz13_0 : w12.cell? ⟨gb104, 0, none⟩ = some (.int .u8 0) := (blk_cell BK104.out 0).trans rfl; have hcz13_1 : w12.cell? ⟨gb104, 1, none⟩ = some (.slice none 0 0) := (blk_cell BK104.out 1).trans rfl; have hfz13_0 := blk_frozen BK104.out 0; have hfz13_1 := blk_frozen BK104.out 1; obtain ⟨Ao14, co14, eo14⟩ := Kd.V_slice HO_3.out; subst eo14) | ((with_reducible refine gate_callee (f := 28) rfl ?_); refine goesL_ (some 18) rfl rfl Try.func28 (by kernel_rfl) rfl #[.int .i64 x10_1, .slice Ao14 x3_1.length co14] rfl (by (try simp only [List.map_toArray, List.map_cons, List.map_nil]); first | done | rfl | (simp only [List.length_drop, List.length_take]; rfl)) ?_; (with_reducible refine (block_expects.calls x10_1 _ _ x3_1 t105 t106 _ ?side1 ?side2 A5.out).mono ?_); (case side1 => refine (Kd.V_reads' (e := 5) (base := w.heap.size) (ok := fun k_ => ((P0_ k_ ∨ w.heap.size ≤ k_) ∧ k_ ≠ gb104)) (n := x3_1.length) (c := co14) ?_).2.2; exact (by (with_reducible repeat (first | apply Kd.V_alloc | apply Kd.V_drewN | apply Kd.V_drew)); exact (Kd.V_mono (Kd.V_far (p := ⟨gb104, 1, none⟩) (Kd.V_far (p := ⟨gb104, 0, none⟩) (Kd.V_mono HO_3.out (fun k_ hk => (⟨hk, hk.2⟩ : _ ∧ k_ ≠ gb104))) (fun _ hk => hk.2) (.int .u8 ((rd_T43 l0 x10_1).f0))) (fun _ hk => hk.2) (.slice A103_1 ((rd_T43 l0 x10_1).f1).length c103_1)) (fun _ h_ => h_.1)))); (case side2 => exact (Kd.V_reads' HO_3.out).2.1); rintro e w' ⟨rfl, ⟨nd, rfl⟩⟩; refine ⟨_, rfl, ?_⟩))
                  go_roundg k1
                  case measure => have := HK1.out; omega
                  case rel => exact ⟨((rd_T43 l0 x10_1).f1), (wrap64 (x10_1 + 1)), (by first | rfl | (simp; done) | (simp [*]; done)), H', ⟨by have := HK1.out; omega⟩, ⟨by (with_reducible repeat (first | apply Kd.V_alloc | apply Kd.V_drewN | apply Kd.V_drew)); exact Kd.V_mono (Kd.V_far (p := ⟨gb104, 1, none⟩) (Kd.V_far (p := ⟨gb104, 0, none⟩) (Kd.V_mono HL103_1.out (fun k_ hk => (⟨hk, hk.2⟩ : _ ∧ k_ ≠ gb104))) (fun _ hk => hk.2) (.int .u8 ((rd_T43 l0 x10_1).f0))) (fun _ hk => hk.2) (.slice A103_1 ((rd_T43 l0 x10_1).f1).length c103_1)) (fun _ hk => hk.1.1)⟩, ⟨by (with_reducible repeat (first | apply Kd.V_alloc | apply Kd.V_drewN | apply Kd.V_drew)); exact Kd.V_mono (Kd.V_far (p := ⟨gb104, 1, none⟩) (Kd.V_far (p := ⟨gb104, 0, none⟩) (Kd.V_mono HO_8.out (fun k_ hk => (⟨hk, hk.2⟩ : _ ∧ k_ ≠ gb104))) (fun _ hk => hk.2) (.int .u8 ((rd_T43 l0 x10_1).f0))) (fun _ hk => hk.2) (.slice A103_1 ((rd_T43 l0 x10_1).f1).length c103_1)) (fun _ hk => hk.1.1)⟩, ⟨by repeat (first | (with_reducible first | exact HB.out | apply below_alloc | apply pw_below_drewN | apply below_drew1 | refine below_set ?_ GE104.out) | exact HB.out)⟩⟩
              · rw [if_neg c7] at H
                have c7b0 : ((((rd_T43 l0 x10_1).f1).length : Int) == t106) = false := beq_eq_false_iff_ne.mpr c7
                have c7b1 : ((((rd_T43 l0 x10_1).f1).length : Int) != t106) = true := bne_iff_ne.mpr c7
                obtain rfl := Option.some.inj H
                have p103 : 0 ≤ (x10_1 : Int) := of_decide_eq_true (by first | (with_reducible assumption) | assumption)
                have q103 : x10_1 < (l0.length : Int) := of_decide_eq_true (by first | (with_reducible assumption) | assumption)
                obtain ⟨ad103, A103_1, c103_1, e103, hx103_0, hx103_1, hl103_1, hi103_1⟩ := at_T43 (Kd.V_reads' HO_8.out).2.2 x10_1 p103 q103
                cases e103
                obtain ⟨ce103, hce103, hMe103, hcc103⟩ := Kd.V_get HO_8.out z43 x10_1 p103 (by first | exact q103 | exact of_decide_eq_true (by first | (with_reducible assumption) | assumption) | (have e_ := (Kd.V_reads' HO_8.out).1; omega))
                obtain ⟨ua103_1, uc103_1, rfl, ul103_1, ge103_1⟩ := k43_openF hMe103
                have hv103_1 := hcc103 1 _ rfl
                rw [add_field _ _ 1 (by omega)] at hv103_1
                replace hv103_1 := Option.some.inj (hv103_1.symm.trans hx103_1)
                injection hv103_1 with hva_ hvn_ hvc_
                rw [hva_] at ge103_1
                rw [hvc_] at ul103_1
                have HL103_1 := Aside0.mk (show Kd.V (Kd.int .u8) 5 _ w.heap.size _ _ ((rd_T43 l0 x10_1).f1) from Kd.V_mk ul103_1 ge103_1)
                clear hva_ hvn_ hvc_ ge103_1 ul103_1
                clear hcc103 hce103
                have HR103_1 := Aside0.mk hi103_1
                have HC103_1 := Aside0.mk hl103_1
                clear hi103_1 hl103_1
                replace p103 := eq_true p103
                replace q103 := eq_true q103
                go_wp2_with (first | ((with_reducible refine gate_dst (N := 5) rfl ?_); (try (refine gate_guard (by rfl) ?_; dsimp only)); refine box_event ?hg (N := 5) ?hd (cs := #[.int .u8 0, .slice none 0 0]) (t := 43) ?hr ?_; (case hd => rfl); (case hg => rfl); (case hr => first | (go_simp; done) | (go_simp; rfl)); intro gb104 hg w15 hbox hb; have n0_ := Aside0.mk (Kd.V_below (Kd.V_elderB (by (with_reducible repeat (first | apply Kd.V_alloc | apply Kd.V_drewN | apply Kd.V_drew)); exact HO_3.out) gb104 (Nat.le_of_eq hg.symm)) hb); have n1_ := Aside0.mk (Kd.V_below (Kd.V_elderB (by (with_reducible repeat (first | apply Kd.V_alloc | apply Kd.V_drewN | apply Kd.V_drew)); exact HO_8.out) gb104 (Nat.le_of_eq hg.symm)) hb); have n2_ := Aside0.mk (Kd.V_below (Kd.V_elderB (by (with_reducible repeat (first | apply Kd.V_alloc | apply Kd.V_drewN | apply Kd.V_drew)); exact HL103_1.out) gb104 (Nat.le_of_eq hg.symm)) hb); have n3_ := Aside0.mk (Kd.C_below (by repeat (first | (with_reducible exact HR103_1.out) | (with_reducible refine Kd.C_alloc ?_ _) | (with_reducible refine Kd.C_drewN ?_ _) | (with_reducible refine Kd.C_drew ?_) | exact HR103_1.out)) hb); have n4_ := Aside0.mk (below_step (by repeat (first | (with_reducible first | exact HB.out | apply below_alloc | apply pw_below_drewN | apply below_drew1) | exact HB.out)) hb); have n5_ := Aside0.mk (hbox); have n6_ := Aside0.mk ((by rw [hg]; exact (below_size (by repeat (first | (with_reducible first | exact HB.out | apply below_alloc | apply pw_below_drewN | apply below_drew1) | exact HB.out))) : w.heap.size ≤ gb104)); have n7_ := Aside0.mk ((by rw [hg]; exact (below_size (by repeat (first | (with_reducible first | exact HB.out | apply below_alloc | apply pw_below_drewN | apply below_drew1) | exact HB.out))) : w.heap.size ≤ gb104)); clear HO_3; clear HO_8; clear HL103_1; clear HR103_1; clear HB; have HO_3 := n0_; have HO_8 := n1_; have HL103_1 := n2_; have HR103_1 := n3_; have HB := n4_; have BK104 := n5_; have GW104 := n6_; have GE104 := n7_; clear n0_ n1_ n2_ n3_ n4_ n5_ n6_ n7_; clear hb hbox hg; have hcz16_0 : w15.cell? ⟨gb104, 0, none⟩ = some (.int .u8 0) := (blk_cell BK104.out 0).trans rfl; have hcz16_1 : w15.cell? ⟨gb104, 1, none⟩ = some (.slice none 0 0) := (blk_cell BK104.out 1).trans rfl; have hfz16_0 := blk_frozen BK104.out 0; have hfz16_1 := blk_frozen BK104.out 1; obtain ⟨Ao17, co17, eo17⟩ := Kd.V_slice HO_3.out; subst eo17) | ((with_reducible refine gate_callee (f := 28) rfl ?_); refine goesL_ (some 18) rfl rfl Try.func28 (by kernel_rfl) rfl #[.int .i64 x10_1, .slice Ao17 x3_1.length co17] rfl (by (try simp only [List.map_toArray, List.map_cons, List.map_nil]); first | done | rfl | (simp only [List.length_drop, List.length_take]; rfl)) ?_; (with_reducible refine (block_expects.calls x10_1 _ _ x3_1 t105 t106 _ ?side1 ?side2 A5.out).mono ?_); (case side1 => refine (Kd.V_reads' (e := 5) (base := w.heap.size) (ok := fun k_ => ((P0_ k_ ∨ w.heap.size ≤ k_) ∧ k_ ≠ gb104)) (n := x3_1.length) (c := co17) ?_).2.2; exact (by (with_reducible repeat (first | apply Kd.V_alloc | apply Kd.V_drewN | apply Kd.V_drew)); exact (Kd.V_mono (Kd.V_far (p := ⟨gb104, 1, none⟩) (Kd.V_far (p := ⟨gb104, 0, none⟩) (Kd.V_mono HO_3.out (fun k_ hk => (⟨hk, hk.2⟩ : _ ∧ k_ ≠ gb104))) (fun _ hk => hk.2) (.int .u8 ((rd_T43 l0 x10_1).f0))) (fun _ hk => hk.2) (.slice A103_1 ((rd_T43 l0 x10_1).f1).length c103_1)) (fun _ h_ => h_.1)))); (case side2 => exact (Kd.V_reads' HO_3.out).2.1); rintro e w' ⟨rfl, ⟨nd, rfl⟩⟩; refine ⟨_, rfl, ?_⟩))
                go_ret
                exact ⟨by first | rfl | (simp [errW_none, errW_some] <;> rfl) | (simp [*, errW_none, errW_some] <;> rfl), by repeat (first | (with_reducible first | exact HB.out | apply below_alloc | apply pw_below_drewN | apply below_drew1 | refine below_set ?_ GE104.out) | exact HB.out)⟩
            · rw [if_neg c6] at H
              have c6b0 : (((rd_T43 l0 x10_1).f0) == t105) = false := beq_eq_false_iff_ne.mpr c6
              have c6b1 : (((rd_T43 l0 x10_1).f0) != t105) = true := bne_iff_ne.mpr c6
              obtain rfl := Option.some.inj H
              have p103 : 0 ≤ (x10_1 : Int) := of_decide_eq_true (by first | (with_reducible assumption) | assumption)
              have q103 : x10_1 < (l0.length : Int) := of_decide_eq_true (by first | (with_reducible assumption) | assumption)
              obtain ⟨ad103, A103_1, c103_1, e103, hx103_0, hx103_1, hl103_1, hi103_1⟩ := at_T43 (Kd.V_reads' HO_8.out).2.2 x10_1 p103 q103
              cases e103
              obtain ⟨ce103, hce103, hMe103, hcc103⟩ := Kd.V_get HO_8.out z43 x10_1 p103 (by first | exact q103 | exact of_decide_eq_true (by first | (with_reducible assumption) | assumption) | (have e_ := (Kd.V_reads' HO_8.out).1; omega))
              obtain ⟨ua103_1, uc103_1, rfl, ul103_1, ge103_1⟩ := k43_openF hMe103
              have hv103_1 := hcc103 1 _ rfl
              rw [add_field _ _ 1 (by omega)] at hv103_1
              replace hv103_1 := Option.some.inj (hv103_1.symm.trans hx103_1)
              injection hv103_1 with hva_ hvn_ hvc_
              rw [hva_] at ge103_1
              rw [hvc_] at ul103_1
              have HL103_1 := Aside0.mk (show Kd.V (Kd.int .u8) 5 _ w.heap.size _ _ ((rd_T43 l0 x10_1).f1) from Kd.V_mk ul103_1 ge103_1)
              clear hva_ hvn_ hvc_ ge103_1 ul103_1
              clear hcc103 hce103
              have HR103_1 := Aside0.mk hi103_1
              have HC103_1 := Aside0.mk hl103_1
              clear hi103_1 hl103_1
              replace p103 := eq_true p103
              replace q103 := eq_true q103
              go_wp2_with (first | ((with_reducible refine gate_dst (N := 5) rfl ?_); (try (refine gate_guard (by rfl) ?_; dsimp only)); refine box_event ?hg (N := 5) ?hd (cs := #[.int .u8 0, .slice none 0 0]) (t := 43) ?hr ?_; (case hd => rfl); (case hg => rfl); (case hr => first | (go_simp; done) | (go_simp; rfl)); intro gb104 hg w18 hbox hb; have n0_ := Aside0.mk (Kd.V_below (Kd.V_elderB (by (with_reducible repeat (first | apply Kd.V_alloc | apply Kd.V_drewN | apply Kd.V_drew)); exact HO_3.out) gb104 (Nat.le_of_eq hg.symm)) hb); have n1_ := Aside0.mk (Kd.V_below (Kd.V_elderB (by (with_reducible repeat (first | apply Kd.V_alloc | apply Kd.V_drewN | apply Kd.V_drew)); exact HO_8.out) gb104 (Nat.le_of_eq hg.symm)) hb); have n2_ := Aside0.mk (Kd.V_below (Kd.V_elderB (by (with_reducible repeat (first | apply Kd.V_alloc | apply Kd.V_drewN | apply Kd.V_drew)); exact HL103_1.out) gb104 (Nat.le_of_eq hg.symm)) hb); have n3_ := Aside0.mk (Kd.C_below (by repeat (first | (with_reducible exact HR103_1.out) | (with_reducible refine Kd.C_alloc ?_ _) | (with_reducible refine Kd.C_drewN ?_ _) | (with_reducible refine Kd.C_drew ?_) | exact HR103_1.out)) hb); have n4_ := Aside0.mk (below_step (by repeat (first | (with_reducible first | exact HB.out | apply below_alloc | apply pw_below_drewN | apply below_drew1) | exact HB.out)) hb); have n5_ := Aside0.mk (hbox); have n6_ := Aside0.mk ((by rw [hg]; exact (below_size (by repeat (first | (with_reducible first | exact HB.out | apply below_alloc | apply pw_below_drewN | apply below_drew1) | exact HB.out))) : w.heap.size ≤ gb104)); have n7_ := Aside0.mk ((by rw [hg]; exact (below_size (by repeat (first | (with_reducible first | exact HB.out | apply below_alloc | apply pw_below_drewN | apply below_drew1) | exact HB.out))) : w.heap.size ≤ gb104)); clear HO_3; clear HO_8; clear HL103_1; clear HR103_1; clear HB; have HO_3 := n0_; have HO_8 := n1_; have HL103_1 := n2_; have HR103_1 := n3_; have HB := n4_; have BK104 := n5_; have GW104 := n6_; have GE104 := n7_; clear n0_ n1_ n2_ n3_ n4_ n5_ n6_ n7_; clear hb hbox hg; have hcz19_0 : w18.cell? ⟨gb104, 0, none⟩ = some (.int .u8 0) := (blk_cell BK104.out 0).trans rfl; have hcz19_1 : w18.cell? ⟨gb104, 1, none⟩ = some (.slice none 0 0) := (blk_cell BK104.out 1).trans rfl; have hfz19_0 := blk_frozen BK104.out 0; have hfz19_1 := blk_frozen BK104.out 1; obtain ⟨Ao20, co20, eo20⟩ := Kd.V_slice HO_3.out; subst eo20) | ((with_reducible refine gate_callee (f := 28) rfl ?_); refine goesL_ (some 18) rfl rfl Try.func28 (by kernel_rfl) rfl #[.int .i64 x10_1, .slice Ao20 x3_1.length co20] rfl (by (try simp only [List.map_toArray, List.map_cons, List.map_nil]); first | done | rfl | (simp only [List.length_drop, List.length_take]; rfl)) ?_; (with_reducible refine (block_expects.calls x10_1 _ _ x3_1 t105 t106 _ ?side1 ?side2 A5.out).mono ?_); (case side1 => refine (Kd.V_reads' (e := 5) (base := w.heap.size) (ok := fun k_ => ((P0_ k_ ∨ w.heap.size ≤ k_) ∧ k_ ≠ gb104)) (n := x3_1.length) (c := co20) ?_).2.2; exact (by (with_reducible repeat (first | apply Kd.V_alloc | apply Kd.V_drewN | apply Kd.V_drew)); exact (Kd.V_mono (Kd.V_far (p := ⟨gb104, 1, none⟩) (Kd.V_far (p := ⟨gb104, 0, none⟩) (Kd.V_mono HO_3.out (fun k_ hk => (⟨hk, hk.2⟩ : _ ∧ k_ ≠ gb104))) (fun _ hk => hk.2) (.int .u8 ((rd_T43 l0 x10_1).f0))) (fun _ hk => hk.2) (.slice A103_1 ((rd_T43 l0 x10_1).f1).length c103_1)) (fun _ h_ => h_.1)))); (case side2 => exact (Kd.V_reads' HO_3.out).2.1); rintro e w' ⟨rfl, ⟨nd, rfl⟩⟩; refine ⟨_, rfl, ?_⟩))
              go_ret
              exact ⟨by first | rfl | (simp [errW_none, errW_some] <;> rfl) | (simp [*, errW_none, errW_some] <;> rfl), by repeat (first | (with_reducible first | exact HB.out | apply below_alloc | apply pw_below_drewN | apply below_drew1 | refine below_set ?_ GE104.out) | exact HB.out)⟩
          · rw [if_neg c4] at H
            exact absurd H (by simp)
        · rw [if_neg c3] at H
          exact absurd H (by simp)
      · rw [if_neg c2] at H
        have c2b0 : decide (x10_1 < (l0.length : Int)) = false := decide_eq_false c2
        clear c2
        obtain rfl := Option.some.inj H
        go_wp2
        go_ret
        exact ⟨by first | rfl | (simp [errW_none, errW_some] <;> rfl) | (simp [*, errW_none, errW_some] <;> rfl), by repeat (first | (with_reducible first | exact HB.out | apply below_alloc | apply pw_below_drewN | apply below_drew1) | exact HB.out)⟩

/-! ### block_Size: function 18 -/
def block_Size.l0 : Nat → Int → List (S43) → Int → Int → Option (Int)
  | 0, _, _, _, _ => none
  | k + 1, x3, x6, x7, x8 => if x8 < x7 then (if 0 ≤ x8 then (if x8 < (x6.length : Int) then (block_Size.l0 k (wrap64 (x3 + (wrap64 (1 + (((rd_T43 x6 x8).f1).length : Int))))) x6 x7 (wrap64 (x8 + 1))) else (none)) else (none)) else (some x3)
def block_Size.f (k : Nat) (l0 : List (S43)) : Option (Int) := block_Size.l0 k 0 l0 (l0.length : Int) 0
theorem block_Size.mono_l : ∀ k, (∀ y0 y1 y2 y3, LeO (block_Size.l0 k y0 y1 y2 y3) (block_Size.l0 (k + 1) y0 y1 y2 y3))
  | 0 => fun _ _ _ _ r h => by simp [block_Size.l0] at h
  | k + 1 => by
    have ih0 := block_Size.mono_l k
    · intro y0 y1 y2 y3
      unfold block_Size.l0
      repeat' first
      | (with_reducible exact ih0 _ _ _ _)
      | (with_reducible exact LeO.refl _)
      | (with_reducible exact LeO.none _)
      | (with_reducible refine LeO.ite ?_ ?_)
      | (with_reducible refine LeO.bind ?_ (fun _ => ?_))
      | exact ih0 _ _ _ _
      | exact LeO.none _
      | refine LeO.ite ?_ ?_
      | refine LeO.bind ?_ (fun _ => ?_)
theorem block_Size.mono : ∀ a0 k, LeO (block_Size.f k a0) (block_Size.f (k + 1) a0) := by
  intro a0 k
  have ih0 := block_Size.mono_l k
  unfold block_Size.f
  repeat' first
      | (with_reducible exact ih0 _ _ _ _)
      | (with_reducible exact LeO.refl _)
      | (with_reducible exact LeO.none _)
      | (with_reducible refine LeO.ite ?_ ?_)
      | (with_reducible refine LeO.bind ?_ (fun _ => ?_))
      | exact ih0 _ _ _ _
      | exact LeO.none _
      | refine LeO.ite ?_ ?_
      | refine LeO.bind ?_ (fun _ => ?_)
set_option maxHeartbeats 8000000 in
set_option maxRecDepth 100000 in
theorem block_Size.calls (k : Nat) (A0 : Option Addr) (c0 : Nat) (l0 : List (S43)) (r : Int) (w : World) (hr0 : Kd.C k43 w A0 l0.length l0) (hc0 : l0.length ≤ c0) (h : block_Size.f k l0 = some r) :
    Calls Try.prog 18 #[.slice A0 l0.length c0] w fun e w' => e = .returned (.int .i64 r) ∧ Below w.heap.size w w' := by
  have hu43 := Try.underlying43
  have HR0 := Aside0.mk hr0
  have HC0 := Aside0.mk hc0
  clear hr0 hc0
  have HB := Aside0.mk (Below.refl w.heap.size w)
  have H : (block_Size.l0 k 0 l0 (l0.length : Int) 0) = some r := h
  clear h
  have H' := Aside0.mk H
  clear H
  go_enter Try.func18, Try.ntmps18
  go_wp2
  go_loopg [3, 8] k (fun kq v3 v8 w' => ∃ (x3_1 : Int) (x8_1 : Int), v3 = .int .i64 x3_1 ∧ v8 = .int .i64 x8_1 ∧ Aside0 (block_Size.l0 kq x3_1 l0 (l0.length : Int) x8_1 = some r) ∧ Aside0 (kq ≤ k) ∧ Aside0 (Below w.heap.size w w'))
  case atStart => exact ⟨(0), (0), (by first | rfl | (simp; done) | (simp [*]; done)), (by first | rfl | (simp; done) | (simp [*]; done)), H', ⟨Nat.le_refl _⟩, ⟨by repeat (first | (with_reducible first | exact HB.out | apply below_alloc | apply pw_below_drewN | apply below_drew1) | exact HB.out)⟩⟩
  case round =>
    clear H'
    try clear c1
    obtain ⟨x3_1, x8_1, rfl, rfl, HA, HK1, HB⟩ := hrel
    cases gk with
    | zero => exact absurd HA.out (by simp [block_Size.l0])
    | succ k1 =>
      have H := HA.out
      clear HA
      simp only [block_Size.l0] at H
      by_cases c2 : x8_1 < (l0.length : Int)
      · rw [if_pos c2] at H
        have c2b0 : decide (x8_1 < (l0.length : Int)) = true := decide_eq_true c2
        clear c2
        by_cases c3 : 0 ≤ x8_1
        · rw [if_pos c3] at H
          have c3b0 : decide (0 ≤ x8_1) = true := decide_eq_true c3
          clear c3
          by_cases c4 : x8_1 < (l0.length : Int)
          · rw [if_pos c4] at H
            have c4b0 : decide (x8_1 < (l0.length : Int)) = true := decide_eq_true c4
            clear c4
            have H' := Aside0.mk H
            clear H
            have p107 : 0 ≤ (x8_1 : Int) := of_decide_eq_true (by first | (with_reducible assumption) | assumption)
            have q107 : x8_1 < (l0.length : Int) := of_decide_eq_true (by first | (with_reducible assumption) | assumption)
            obtain ⟨ad107, A107_1, c107_1, e107, hx107_0, hx107_1, hl107_1, hi107_1⟩ := at_T43 HR0.out x8_1 p107 q107
            cases e107
            replace hx107_0 := (HB.out.cell (World.block_lt_of_cell? w _ hx107_0)).trans hx107_0
            replace hx107_1 := (HB.out.cell (World.block_lt_of_cell? w _ hx107_1)).trans hx107_1
            have HR107_1 := Aside0.mk hi107_1
            have HC107_1 := Aside0.mk hl107_1
            clear hi107_1 hl107_1
            replace p107 := eq_true p107
            replace q107 := eq_true q107
            go_wp2_with (first | ((with_reducible refine gate_dst (N := 5) rfl ?_); refine box_event ?hg (N := 5) ?hd (cs := #[.int .u8 0, .slice none 0 0]) (t := 43) ?hr ?_; (case hd => rfl); (case hg => rfl); (case hr => first | (go_simp; done) | (go_simp; rfl)); intro gb108 hg w5 hbox hb; have n0_ := Aside0.mk (below_step (by repeat (first | (with_reducible first | exact HB.out | apply below_alloc | apply pw_below_drewN | apply below_drew1) | exact HB.out)) hb); have n1_ := Aside0.mk (hbox); have n2_ := Aside0.mk ((by rw [hg]; exact (below_size (by repeat (first | (with_reducible first | exact HB.out | apply below_alloc | apply pw_below_drewN | apply below_drew1) | exact HB.out))) : w.heap.size ≤ gb108)); have n3_ := Aside0.mk ((by rw [hg]; exact (below_size (by repeat (first | (with_reducible first | exact HB.out | apply below_alloc | apply pw_below_drewN | apply below_drew1) | exact HB.out))) : w.heap.size ≤ gb108)); clear HB; have HB := n0_; have BK108 := n1_; have GW108 := n2_; have GE108 := n3_; clear n0_ n1_ n2_ n3_; clear hb hbox hg; have hcz6_0 : w5.cell? ⟨gb108, 0, none⟩ = some (.int .u8 0) := (blk_cell BK108.out 0).trans rfl; have hcz6_1 : w5.cell? ⟨gb108, 1, none⟩ = some (.slice none 0 0) := (blk_cell BK108.out 1).trans rfl; have hfz6_0 := blk_frozen BK108.out 0; have hfz6_1 := blk_frozen BK108.out 1))
            go_roundg k1
            case measure => have := HK1.out; omega
            case rel => exact ⟨(wrap64 (x3_1 + (wrap64 (1 + (((rd_T43 l0 x8_1).f1).length : Int))))), (wrap64 (x8_1 + 1)), (by first | rfl | (simp; done) | (simp [*]; done)), (by first | rfl | (simp; done) | (simp [*]; done)), H', ⟨by have := HK1.out; omega⟩, ⟨by repeat (first | (with_reducible first | exact HB.out | apply below_alloc | apply pw_below_drewN | apply below_drew1 | refine below_set ?_ GE108.out) | exact HB.out)⟩⟩
          · rw [if_neg c4] at H
            exact absurd H (by simp)
        · rw [if_neg c3] at H
          exact absurd H (by simp)
      · rw [if_neg c2] at H
        have c2b0 : decide (x8_1 < (l0.length : Int)) = false := decide_eq_false c2
        clear c2
        obtain rfl := Option.some.inj H
        go_wp2
        go_ret
        exact ⟨by first | rfl | (simp [errW_none, errW_some] <;> rfl) | (simp [*, errW_none, errW_some] <;> rfl), by repeat (first | (with_reducible first | exact HB.out | apply below_alloc | apply pw_below_drewN | apply below_drew1) | exact HB.out)⟩

/-! ### kotatsulaw05_awake: function 8 -/
def kotatsulaw05_awake.f (k : Nat)  : Option (Bool) := (block_Disk.f (⟨#[42]⟩ : ByteArray) 0 ([] : List (List (S43)))).bind fun t109 => ((block_Size.f k t109).bind fun t112 => (if t112 = 58 then ((block_Right.f k t109).bind fun t113 => (if t113 = true then (if 1 ≤ (t109.length : Int) then ((block_Right.f k (t109.drop 1)).bind fun t119 => (some (!t119))) else (none)) else (some false))) else (some false)))
theorem kotatsulaw05_awake.mono : ∀ k, LeO (kotatsulaw05_awake.f k ) (kotatsulaw05_awake.f (k + 1) ) := by
  intro  k
  unfold kotatsulaw05_awake.f
  repeat' first
      | (with_reducible exact block_Right.mono _ _)
      | (with_reducible exact block_Size.mono _ _)
      | (with_reducible exact LeO.refl _)
      | (with_reducible exact LeO.none _)
      | (with_reducible refine LeO.ite ?_ ?_)
      | (with_reducible refine LeO.bind ?_ (fun _ => ?_))
      | exact block_Right.mono _ _
      | exact block_Size.mono _ _
      | exact LeO.none _
      | refine LeO.ite ?_ ?_
      | refine LeO.bind ?_ (fun _ => ?_)
set_option maxHeartbeats 8000000 in
set_option maxRecDepth 100000 in
theorem kotatsulaw05_awake.calls (k : Nat)  (r : Bool) (w : World) (h : kotatsulaw05_awake.f k  = some r) :
    Calls Try.prog 8 #[] w fun e w' => e = .returned (.bool r) ∧ Below w.heap.size w w' := by
  have HB := Aside0.mk (Below.refl w.heap.size w)
  have H : ((block_Disk.f (⟨#[42]⟩ : ByteArray) 0 ([] : List (List (S43)))).bind fun t109 => ((block_Size.f k t109).bind fun t112 => (if t112 = 58 then ((block_Right.f k t109).bind fun t113 => (if t113 = true then (if 1 ≤ (t109.length : Int) then ((block_Right.f k (t109.drop 1)).bind fun t119 => (some (!t119))) else (none)) else (some false))) else (some false)))) = some r := h
  clear h
  replace H := Option.bind_eq_some_iff.mp H
  obtain ⟨t109, A10, H⟩ := H
  replace H : ((block_Size.f k t109).bind fun t112 => (if t112 = 58 then ((block_Right.f k t109).bind fun t113 => (if t113 = true then (if 1 ≤ (t109.length : Int) then ((block_Right.f k (t109.drop 1)).bind fun t119 => (some (!t119))) else (none)) else (some false))) else (some false))) = some r := H
  have A1 := Aside0.mk A10
  clear A10
  replace H := Option.bind_eq_some_iff.mp H
  obtain ⟨t112, A20, H⟩ := H
  replace H : (if t112 = 58 then ((block_Right.f k t109).bind fun t113 => (if t113 = true then (if 1 ≤ (t109.length : Int) then ((block_Right.f k (t109.drop 1)).bind fun t119 => (some (!t119))) else (none)) else (some false))) else (some false)) = some r := H
  have A2 := Aside0.mk A20
  clear A20
  by_cases c3 : t112 = 58
  · rw [if_pos c3] at H
    have c3b0 : (t112 == 58) = true := beq_iff_eq.mpr c3
    have c3b1 : (t112 != 58) = false := bne_eq_false_iff_eq.mpr c3
    clear c3
    replace H := Option.bind_eq_some_iff.mp H
    obtain ⟨t113, A40, H⟩ := H
    replace H : (if t113 = true then (if 1 ≤ (t109.length : Int) then ((block_Right.f k (t109.drop 1)).bind fun t119 => (some (!t119))) else (none)) else (some false)) = some r := H
    have A4 := Aside0.mk A40
    clear A40
    by_cases c5 : t113 = true
    · subst c5
      have H1 : (if 1 ≤ (t109.length : Int) then ((block_Right.f k (t109.drop 1)).bind fun t119 => (some (!t119))) else (none)) = some r := by rw [if_pos rfl] at H; exact H
      clear H
      have H := H1
      clear H1
      by_cases c6 : 1 ≤ (t109.length : Int)
      · rw [if_pos c6] at H
        have c6b0 := eq_true c6
        have c6b1 : decide (1 ≤ (t109.length : Int)) = true := decide_eq_true c6
        clear c6
        obtain ⟨y114, hy114⟩ : ∃ y_ : List (S43), y_ = (t109.drop 1) := ⟨_, rfl⟩
        replace H : ((block_Right.f k y114).bind fun t119 => (some (!t119))) = some r := by first | (rw [hy114]; with_reducible exact H) | (have H2_ := (Option.bind_some _ _).symm.trans H; rw [hy114]; with_reducible exact H2_) | (have H2_ := (Option.bind_some _ _).symm.trans H; with_reducible exact H2_) | with_reducible exact H | (rw [hy114]; exact H) | exact H
        have Ny114 := Aside0.mk hy114
        clear hy114
        replace H := Option.bind_eq_some_iff.mp H
        obtain ⟨t119, A70, H⟩ := H
        replace H : (some (!t119)) = some r := H
        have A7 := Aside0.mk A70
        clear A70
        obtain rfl := Option.some.inj H
        go_enter Try.func8, Try.ntmps8
        go_wp2_with (first | ((with_reducible refine gate_callee (f := 13) rfl ?_); refine goesL_ (some 2) rfl rfl Try.func13 (by kernel_rfl) rfl #[.string (⟨#[42]⟩ : ByteArray), .int .u8 0, .slice none 0 0] rfl (by (try simp only [List.map_toArray, List.map_cons, List.map_nil]); first | done | rfl | (simp only [List.length_drop, List.length_take]; rfl)) ?_; (refine (block_Disk.calls (⟨#[42]⟩ : ByteArray) 0 (fun k_ => False) _ _ ([] : List (List (S43))) t109 _ ?side1 A1.out).mono ?_); (case side1 => exact Kd.V_nil _ _ _ _ _); rintro e w8 ⟨v110, rfl, ho0, hb⟩; refine ⟨_, rfl, ?_⟩; have n0_ := Aside0.mk (Kd.N_lower (Kd.N_mono (ok' := fun k_ => True) ho0 (fun k_ hk_ => trivial)) (below_size (by repeat (first | (with_reducible first | exact HB.out | apply below_alloc | apply pw_below_drewN | apply below_drew1) | exact HB.out)))); have n1_ := Aside0.mk (below_step (by repeat (first | (with_reducible first | exact HB.out | apply below_alloc | apply pw_below_drewN | apply below_drew1) | exact HB.out)) hb); clear HB; have HO111 := n0_; have HB := n1_; clear n0_ n1_; (try clear hb); (try clear hb2); (try clear hk); (try clear hi); (try clear ho0); obtain ⟨Ao9, co9, eo9⟩ := Kd.N_slice HO111.out; subst eo9) | ((with_reducible refine gate_callee (f := 18) rfl ?_); refine goesL_ (some 4) rfl rfl Try.func18 (by kernel_rfl) rfl #[.slice Ao9 t109.length co9] rfl (by (try simp only [List.map_toArray, List.map_cons, List.map_nil]); first | done | rfl | (simp only [List.length_drop, List.length_take]; rfl)) ?_; (with_reducible refine (block_Size.calls k _ _ t109 t112 _ ?side1 ?side2 A2.out).mono ?_); (case side1 => repeat (first | exact (Kd.N_reads' HO111.out).2.2 | (with_reducible refine Kd.C_alloc ?_ _) | (with_reducible refine Kd.C_drewN ?_ _) | (with_reducible refine Kd.C_drew ?_))); (case side2 => exact (Kd.N_reads' HO111.out).2.1); rintro e w10 ⟨rfl, hb⟩; refine ⟨_, rfl, ?_⟩; have n0_ := Aside0.mk (Kd.N_below (by (with_reducible repeat (first | apply Kd.N_alloc | apply Kd.N_drewN | apply Kd.N_drew)); exact HO111.out) hb); have n1_ := Aside0.mk (below_step (by repeat (first | (with_reducible first | exact HB.out | apply below_alloc | apply pw_below_drewN | apply below_drew1) | exact HB.out)) hb); clear HO111; clear HB; have HO111 := n0_; have HB := n1_; clear n0_ n1_; (try clear hb); (try clear hb2); (try clear hk); (try clear hi)) | (go_at_call 17; (with_reducible refine (block_Right.calls k (fun k_ => True) _ _ t109 true _ ?side1 A4.out).mono ?_); (case side1 => exact Kd.N_V (HO111.out)); rintro e w11 ⟨rfl, hb⟩; have n0_ := Aside0.mk (Kd.N_below (by (with_reducible repeat (first | apply Kd.N_alloc | apply Kd.N_drewN | apply Kd.N_drew)); exact HO111.out) hb); have n1_ := Aside0.mk (below_step (by repeat (first | (with_reducible first | exact HB.out | apply below_alloc | apply pw_below_drewN | apply below_drew1) | exact HB.out)) hb); clear HO111; clear HB; have HO111 := n0_; have HB := n1_; clear n0_ n1_; (try clear hb); (try clear hb2); (try clear hk); (try clear hi); have q12 : (1 : Int) ≤ ((t109.length : Int) : Int) := of_decide_eq_true (by first | (with_reducible assumption) | assumption); obtain ⟨i012, hi012, _, hsz12, _⟩ := info_parts info43; have hroom12 : t109.length ≤ co9 := (Kd.N_reads' HO111.out).2.1; have hC12 : Kd.F k43 _ _ Ao9 t109.length t109 := (Kd.V_at (base := w.heap.size) (Kd.N_V HO111.out)).2.2; have hcut12 := cut_from (P := Try.prog) 29 43 .i64 Try.underlying29 hi012 2 hsz12 Ao9 t109.length co9 1 (by omega) q12; have hr12 := Kd.F_cut (m := (1 : Int).toNat) (c := co9) hC12 (by omega) hroom12; obtain ⟨A12, hA12⟩ : ∃ A1, A1 = (if co9 = (1 : Int).toNat then Ao9 else (Ao9 : Option Addr).map (·.add ((1 : Int).toNat * 2))) := ⟨_, rfl⟩; obtain ⟨c12, hc12⟩ : ∃ c1, c1 = co9 - (1 : Int).toNat := ⟨_, rfl⟩; have hy12 : y114.length = t109.length - (1 : Int).toNat := (by rw [Ny114.out, List.length_drop] <;> omega); rw [show (t109).drop (1 : Int).toNat = y114 from Ny114.out.symm] at hr12; replace hr12 : Kd.F k43 _ _ A12 y114.length y114 := (by rw [hA12]; exact hr12); rw [← hy12, ← hA12, ← hc12] at hcut12; have HO118 := Aside0.mk (show Kd.V k43 43 _ w.heap.size _ (.slice A12 y114.length c12) y114 from Kd.V_mk (by rw [hy12, hc12]; exact Nat.sub_le_sub_right hroom12 _) hr12); have HC118 := Aside0.mk (show y114.length ≤ c12 from by rw [hy12, hc12]; exact Nat.sub_le_sub_right hroom12 _); clear hr12 hC12 hroom12 hi012 hsz12 hc12; have KY12 := Aside0.mk hy12; have KA12 := Aside0.mk hA12; clear hy12 hA12; replace q12 := eq_true q12) | (go_at_call 17; (with_reducible refine (block_Right.calls k (fun k_ => True) _ _ y114 t119 _ ?side1 A7.out).mono ?_); (case side1 => exact HO118.out); rintro e w13 ⟨rfl, hb⟩; have n0_ := Aside0.mk (Kd.N_below (by (with_reducible repeat (first | apply Kd.N_alloc | apply Kd.N_drewN | apply Kd.N_drew)); exact HO111.out) hb); have n1_ := Aside0.mk (Kd.V_below (by (with_reducible repeat (first | apply Kd.V_alloc | apply Kd.V_drewN | apply Kd.V_drew)); exact HO118.out) hb); have n2_ := Aside0.mk (below_step (by repeat (first | (with_reducible first | exact HB.out | apply below_alloc | apply pw_below_drewN | apply below_drew1) | exact HB.out)) hb); clear HO111; clear HO118; clear HB; have HO111 := n0_; have HO118 := n1_; have HB := n2_; clear n0_ n1_ n2_; (try clear hb); (try clear hb2); (try clear hk); (try clear hi)))
        go_ret
        exact ⟨by first | rfl | (simp [errW_none, errW_some] <;> rfl) | (simp [*, errW_none, errW_some] <;> rfl), by repeat (first | (with_reducible first | exact HB.out | apply below_alloc | apply pw_below_drewN | apply below_drew1) | exact HB.out)⟩
      · rw [if_neg c6] at H
        exact absurd H (by simp)
    · replace c5 := Bool.eq_false_iff.mpr c5
      subst c5
      have H1 : (some false) = some r := by rw [if_neg (show ¬ (false = true) by decide)] at H; exact H
      clear H
      have H := H1
      clear H1
      obtain rfl := Option.some.inj H
      go_enter Try.func8, Try.ntmps8
      go_wp2_with (first | ((with_reducible refine gate_callee (f := 13) rfl ?_); refine goesL_ (some 2) rfl rfl Try.func13 (by kernel_rfl) rfl #[.string (⟨#[42]⟩ : ByteArray), .int .u8 0, .slice none 0 0] rfl (by (try simp only [List.map_toArray, List.map_cons, List.map_nil]); first | done | rfl | (simp only [List.length_drop, List.length_take]; rfl)) ?_; (refine (block_Disk.calls (⟨#[42]⟩ : ByteArray) 0 (fun k_ => False) _ _ ([] : List (List (S43))) t109 _ ?side1 A1.out).mono ?_); (case side1 => exact Kd.V_nil _ _ _ _ _); rintro e w14 ⟨v110, rfl, ho0, hb⟩; refine ⟨_, rfl, ?_⟩; have n0_ := Aside0.mk (Kd.N_lower (Kd.N_mono (ok' := fun k_ => True) ho0 (fun k_ hk_ => trivial)) (below_size (by repeat (first | (with_reducible first | exact HB.out | apply below_alloc | apply pw_below_drewN | apply below_drew1) | exact HB.out)))); have n1_ := Aside0.mk (below_step (by repeat (first | (with_reducible first | exact HB.out | apply below_alloc | apply pw_below_drewN | apply below_drew1) | exact HB.out)) hb); clear HB; have HO111 := n0_; have HB := n1_; clear n0_ n1_; (try clear hb); (try clear hb2); (try clear hk); (try clear hi); (try clear ho0); obtain ⟨Ao15, co15, eo15⟩ := Kd.N_slice HO111.out; subst eo15) | ((with_reducible refine gate_callee (f := 18) rfl ?_); refine goesL_ (some 4) rfl rfl Try.func18 (by kernel_rfl) rfl #[.slice Ao15 t109.length co15] rfl (by (try simp only [List.map_toArray, List.map_cons, List.map_nil]); first | done | rfl | (simp only [List.length_drop, List.length_take]; rfl)) ?_; (with_reducible refine (block_Size.calls k _ _ t109 t112 _ ?side1 ?side2 A2.out).mono ?_); (case side1 => repeat (first | exact (Kd.N_reads' HO111.out).2.2 | (with_reducible refine Kd.C_alloc ?_ _) | (with_reducible refine Kd.C_drewN ?_ _) | (with_reducible refine Kd.C_drew ?_))); (case side2 => exact (Kd.N_reads' HO111.out).2.1); rintro e w16 ⟨rfl, hb⟩; refine ⟨_, rfl, ?_⟩; have n0_ := Aside0.mk (Kd.N_below (by (with_reducible repeat (first | apply Kd.N_alloc | apply Kd.N_drewN | apply Kd.N_drew)); exact HO111.out) hb); have n1_ := Aside0.mk (below_step (by repeat (first | (with_reducible first | exact HB.out | apply below_alloc | apply pw_below_drewN | apply below_drew1) | exact HB.out)) hb); clear HO111; clear HB; have HO111 := n0_; have HB := n1_; clear n0_ n1_; (try clear hb); (try clear hb2); (try clear hk); (try clear hi)) | (go_at_call 17; (with_reducible refine (block_Right.calls k (fun k_ => True) _ _ t109 false _ ?side1 A4.out).mono ?_); (case side1 => exact Kd.N_V (HO111.out)); rintro e w17 ⟨rfl, hb⟩; have n0_ := Aside0.mk (Kd.N_below (by (with_reducible repeat (first | apply Kd.N_alloc | apply Kd.N_drewN | apply Kd.N_drew)); exact HO111.out) hb); have n1_ := Aside0.mk (below_step (by repeat (first | (with_reducible first | exact HB.out | apply below_alloc | apply pw_below_drewN | apply below_drew1) | exact HB.out)) hb); clear HO111; clear HB; have HO111 := n0_; have HB := n1_; clear n0_ n1_; (try clear hb); (try clear hb2); (try clear hk); (try clear hi)))
      go_ret
      exact ⟨by first | rfl | (simp [errW_none, errW_some] <;> rfl) | (simp [*, errW_none, errW_some] <;> rfl), by repeat (first | (with_reducible first | exact HB.out | apply below_alloc | apply pw_below_drewN | apply below_drew1) | exact HB.out)⟩
  · rw [if_neg c3] at H
    have c3b0 : (t112 == 58) = false := beq_eq_false_iff_ne.mpr c3
    have c3b1 : (t112 != 58) = true := bne_iff_ne.mpr c3
    obtain rfl := Option.some.inj H
    go_enter Try.func8, Try.ntmps8
    go_wp2_with (first | ((with_reducible refine gate_callee (f := 13) rfl ?_); refine goesL_ (some 2) rfl rfl Try.func13 (by kernel_rfl) rfl #[.string (⟨#[42]⟩ : ByteArray), .int .u8 0, .slice none 0 0] rfl (by (try simp only [List.map_toArray, List.map_cons, List.map_nil]); first | done | rfl | (simp only [List.length_drop, List.length_take]; rfl)) ?_; (refine (block_Disk.calls (⟨#[42]⟩ : ByteArray) 0 (fun k_ => False) _ _ ([] : List (List (S43))) t109 _ ?side1 A1.out).mono ?_); (case side1 => exact Kd.V_nil _ _ _ _ _); rintro e w18 ⟨v110, rfl, ho0, hb⟩; refine ⟨_, rfl, ?_⟩; have n0_ := Aside0.mk (Kd.N_lower (Kd.N_mono (ok' := fun k_ => True) ho0 (fun k_ hk_ => trivial)) (below_size (by repeat (first | (with_reducible first | exact HB.out | apply below_alloc | apply pw_below_drewN | apply below_drew1) | exact HB.out)))); have n1_ := Aside0.mk (below_step (by repeat (first | (with_reducible first | exact HB.out | apply below_alloc | apply pw_below_drewN | apply below_drew1) | exact HB.out)) hb); clear HB; have HO111 := n0_; have HB := n1_; clear n0_ n1_; (try clear hb); (try clear hb2); (try clear hk); (try clear hi); (try clear ho0); obtain ⟨Ao19, co19, eo19⟩ := Kd.N_slice HO111.out; subst eo19) | ((with_reducible refine gate_callee (f := 18) rfl ?_); refine goesL_ (some 4) rfl rfl Try.func18 (by kernel_rfl) rfl #[.slice Ao19 t109.length co19] rfl (by (try simp only [List.map_toArray, List.map_cons, List.map_nil]); first | done | rfl | (simp only [List.length_drop, List.length_take]; rfl)) ?_; (with_reducible refine (block_Size.calls k _ _ t109 t112 _ ?side1 ?side2 A2.out).mono ?_); (case side1 => repeat (first | exact (Kd.N_reads' HO111.out).2.2 | (with_reducible refine Kd.C_alloc ?_ _) | (with_reducible refine Kd.C_drewN ?_ _) | (with_reducible refine Kd.C_drew ?_))); (case side2 => exact (Kd.N_reads' HO111.out).2.1); rintro e w20 ⟨rfl, hb⟩; refine ⟨_, rfl, ?_⟩; have n0_ := Aside0.mk (Kd.N_below (by (with_reducible repeat (first | apply Kd.N_alloc | apply Kd.N_drewN | apply Kd.N_drew)); exact HO111.out) hb); have n1_ := Aside0.mk (below_step (by repeat (first | (with_reducible first | exact HB.out | apply below_alloc | apply pw_below_drewN | apply below_drew1) | exact HB.out)) hb); clear HO111; clear HB; have HO111 := n0_; have HB := n1_; clear n0_ n1_; (try clear hb); (try clear hb2); (try clear hk); (try clear hi)))
    go_ret
    exact ⟨by first | rfl | (simp [errW_none, errW_some] <;> rfl) | (simp [*, errW_none, errW_some] <;> rfl), by repeat (first | (with_reducible first | exact HB.out | apply below_alloc | apply pw_below_drewN | apply below_drew1) | exact HB.out)⟩

/-! ### kotatsulaw05_own: function 12 -/
def kotatsulaw05_own.l0 : Nat → List (S61) → List (S43) → Int → Int → Option ((List (S61)))
  | 0, _, _, _, _ => none
  | k + 1, x3, x6, x7, x8 => if x8 < x7 then (if 0 ≤ x8 then (if x8 < (x6.length : Int) then (if x3.length < 4398046511104 then (kotatsulaw05_own.l0 k (x3 ++ [(⟨(rd_T43 x6 x8).f0, (rd_T43 x6 x8).f1⟩ : S61)]) x6 x7 (wrap64 (x8 + 1))) else (none)) else (none)) else (none)) else (some x3)
def kotatsulaw05_own.f (k : Nat) (l0 : List (S43)) : Option ((List (S61))) := kotatsulaw05_own.l0 k ([] : List (S61)) l0 (l0.length : Int) 0
theorem kotatsulaw05_own.mono_l : ∀ k, (∀ y0 y1 y2 y3, LeO (kotatsulaw05_own.l0 k y0 y1 y2 y3) (kotatsulaw05_own.l0 (k + 1) y0 y1 y2 y3))
  | 0 => fun _ _ _ _ r h => by simp [kotatsulaw05_own.l0] at h
  | k + 1 => by
    have ih0 := kotatsulaw05_own.mono_l k
    · intro y0 y1 y2 y3
      unfold kotatsulaw05_own.l0
      repeat' first
      | (with_reducible exact ih0 _ _ _ _)
      | (with_reducible exact LeO.refl _)
      | (with_reducible exact LeO.none _)
      | (with_reducible refine LeO.ite ?_ ?_)
      | (with_reducible refine LeO.bind ?_ (fun _ => ?_))
      | exact ih0 _ _ _ _
      | exact LeO.none _
      | refine LeO.ite ?_ ?_
      | refine LeO.bind ?_ (fun _ => ?_)
theorem kotatsulaw05_own.mono : ∀ a0 k, LeO (kotatsulaw05_own.f k a0) (kotatsulaw05_own.f (k + 1) a0) := by
  intro a0 k
  have ih0 := kotatsulaw05_own.mono_l k
  unfold kotatsulaw05_own.f
  repeat' first
      | (with_reducible exact ih0 _ _ _ _)
      | (with_reducible exact LeO.refl _)
      | (with_reducible exact LeO.none _)
      | (with_reducible refine LeO.ite ?_ ?_)
      | (with_reducible refine LeO.bind ?_ (fun _ => ?_))
      | exact ih0 _ _ _ _
      | exact LeO.none _
      | refine LeO.ite ?_ ?_
      | refine LeO.bind ?_ (fun _ => ?_)
set_option maxHeartbeats 8000000 in
set_option maxRecDepth 100000 in
theorem kotatsulaw05_own.calls (k : Nat) (P0_ : Nat → Prop) (A0 : Option Addr) (c0 : Nat) (l0 : List (S43)) (r : List (S61)) (w : World) (hs0 : Kd.V k43 43 w w.heap.size (fun k_ => P0_ k_) (.slice A0 l0.length c0) l0) (h : kotatsulaw05_own.f k l0 = some r) :
    Calls Try.prog 12 #[.slice A0 l0.length c0] w fun e w' => ∃ v0_ : Value, e = .returned (v0_) ∧ Kd.N k61 61 w' w.heap.size (fun k_ => (P0_ k_ ∨ w.heap.size ≤ k_)) v0_ r ∧ Below w.heap.size w w' := by
  have hu43 := Try.underlying43
  have hu61 := Try.underlying61
  have HO0 := Aside0.mk (show Kd.V k43 43 w w.heap.size (fun k_ => (P0_ k_ ∨ w.heap.size ≤ k_)) (.slice A0 l0.length c0) l0 from Kd.V_mono hs0 (fun k_ hk => .inl hk))
  have HB := Aside0.mk (Below.refl w.heap.size w)
  have H : (kotatsulaw05_own.l0 k ([] : List (S61)) l0 (l0.length : Int) 0) = some r := h
  clear h
  have H' := Aside0.mk H
  clear H
  go_enter Try.func12, Try.ntmps12
  go_wp2
  go_loopg [3, 8] k (fun kq v3 v8 w' => ∃ (x3_1 : List (S61)) (x8_1 : Int), v8 = .int .i64 x8_1 ∧ Aside0 (kotatsulaw05_own.l0 kq x3_1 l0 (l0.length : Int) x8_1 = some r) ∧ Aside0 (kq ≤ k) ∧ Aside0 (Kd.N k61 61 w' w.heap.size (fun k_ => (P0_ k_ ∨ w.heap.size ≤ k_)) v3 x3_1) ∧ Aside0 (Kd.V k43 43 w' w.heap.size (fun k_ => (P0_ k_ ∨ w.heap.size ≤ k_) ∧ some k_ ≠ (v3 : Value).ownBlock) (.slice A0 l0.length c0) l0) ∧ Aside0 (Below w.heap.size w w'))
  case atStart => exact ⟨(([] : List (S61))), (0), (by first | rfl | (simp; done) | (simp [*]; done)), H', ⟨Nat.le_refl _⟩, ⟨by first | exact Kd.S_nil _ _ _ _ _ | exact Kd.N_nil _ _ _ _ _ | exact Kd.V_nil _ _ _ _ _ | exact Kd.Q_nil _ _ _ _ _ | exact Kd.R_nil _ _ _ _ _⟩, ⟨by (with_reducible repeat (first | apply Kd.V_alloc | apply Kd.V_drewN | apply Kd.V_drew)); exact Kd.V_mono HO0.out (fun _ hk => ⟨hk, (by simp [Value.ownBlock])⟩)⟩, ⟨by repeat (first | (with_reducible first | exact HB.out | apply below_alloc | apply pw_below_drewN | apply below_drew1) | exact HB.out)⟩⟩
  case round =>
    clear H'
    try clear c1
    obtain ⟨x3_1, x8_1, rfl, HA, HK1, HO_3, HO_6, HB⟩ := hrel
    cases gk with
    | zero => exact absurd HA.out (by simp [kotatsulaw05_own.l0])
    | succ k1 =>
      have H := HA.out
      clear HA
      simp only [kotatsulaw05_own.l0] at H
      by_cases c2 : x8_1 < (l0.length : Int)
      · rw [if_pos c2] at H
        have c2b0 : decide (x8_1 < (l0.length : Int)) = true := decide_eq_true c2
        clear c2
        by_cases c3 : 0 ≤ x8_1
        · rw [if_pos c3] at H
          have c3b0 : decide (0 ≤ x8_1) = true := decide_eq_true c3
          clear c3
          by_cases c4 : x8_1 < (l0.length : Int)
          · rw [if_pos c4] at H
            have c4b0 : decide (x8_1 < (l0.length : Int)) = true := decide_eq_true c4
            clear c4
            by_cases c5 : x3_1.length < 4398046511104
            · rw [if_pos c5] at H
              have LMc5 := Aside0.mk c5
              clear c5
              obtain ⟨y122, hy122⟩ : ∃ y_ : List (S61), y_ = (x3_1 ++ [(⟨(rd_T43 l0 x8_1).f0, (rd_T43 l0 x8_1).f1⟩ : S61)]) := ⟨_, rfl⟩
              replace H : (kotatsulaw05_own.l0 k1 y122 l0 (l0.length : Int) (wrap64 (x8_1 + 1))) = some r := by first | (rw [hy122]; with_reducible exact H) | (have H2_ := (Option.bind_some _ _).symm.trans H; rw [hy122]; with_reducible exact H2_) | (have H2_ := (Option.bind_some _ _).symm.trans H; with_reducible exact H2_) | with_reducible exact H | (rw [hy122]; exact H) | exact H
              have Ny122 := Aside0.mk hy122
              clear hy122
              have H' := Aside0.mk H
              clear H
              have p120 : 0 ≤ (x8_1 : Int) := of_decide_eq_true (by first | (with_reducible assumption) | assumption)
              have q120 : x8_1 < (l0.length : Int) := of_decide_eq_true (by first | (with_reducible assumption) | assumption)
              obtain ⟨ad120, A120_1, c120_1, e120, hx120_0, hx120_1, hl120_1, hi120_1⟩ := at_T43 (Kd.V_reads' HO_6.out).2.2 x8_1 p120 q120
              cases e120
              obtain ⟨ce120, hce120, hMe120, hcc120⟩ := Kd.V_get HO_6.out z43 x8_1 p120 (by first | exact q120 | exact of_decide_eq_true (by first | (with_reducible assumption) | assumption) | (have e_ := (Kd.V_reads' HO_6.out).1; omega))
              obtain ⟨ua120_1, uc120_1, rfl, ul120_1, ge120_1⟩ := k43_openF hMe120
              have hv120_1 := hcc120 1 _ rfl
              rw [add_field _ _ 1 (by omega)] at hv120_1
              replace hv120_1 := Option.some.inj (hv120_1.symm.trans hx120_1)
              injection hv120_1 with hva_ hvn_ hvc_
              rw [hva_] at ge120_1
              rw [hvc_] at ul120_1
              have HL120_1 := Aside0.mk (show Kd.V (Kd.int .u8) 5 _ w.heap.size _ _ ((rd_T43 l0 x8_1).f1) from Kd.V_mk ul120_1 ge120_1)
              clear hva_ hvn_ hvc_ ge120_1 ul120_1
              clear hcc120 hce120
              have HR120_1 := Aside0.mk hi120_1
              have HC120_1 := Aside0.mk hl120_1
              clear hi120_1 hl120_1
              replace p120 := eq_true p120
              replace q120 := eq_true q120
              go_wp2_with (first | ((with_reducible refine gate_dst (N := 5) rfl ?_); refine box_event ?hg (N := 5) ?hd (cs := #[.int .u8 0, .slice none 0 0]) (t := 43) ?hr ?_; (case hd => rfl); (case hg => rfl); (case hr => first | (go_simp; done) | (go_simp; rfl)); intro gb121 hg w6 hbox hb; have n0_ := Aside0.mk (Kd.N_below (Kd.N_elderB (by (with_reducible repeat (first | apply Kd.N_alloc | apply Kd.N_drewN | apply Kd.N_drew)); exact HO_3.out) gb121 (Nat.le_of_eq hg.symm)) hb); have n1_ := Aside0.mk (Kd.V_below (Kd.V_elderB (by (with_reducible repeat (first | apply Kd.V_alloc | apply Kd.V_drewN | apply Kd.V_drew)); exact HO_6.out) gb121 (Nat.le_of_eq hg.symm)) hb); have n2_ := Aside0.mk (Kd.V_below (Kd.V_elderB (by (with_reducible repeat (first | apply Kd.V_alloc | apply Kd.V_drewN | apply Kd.V_drew)); exact HL120_1.out) gb121 (Nat.le_of_eq hg.symm)) hb); have n3_ := Aside0.mk (Kd.C_below (by repeat (first | (with_reducible exact HR120_1.out) | (with_reducible refine Kd.C_alloc ?_ _) | (with_reducible refine Kd.C_drewN ?_ _) | (with_reducible refine Kd.C_drew ?_) | exact HR120_1.out)) hb); have n4_ := Aside0.mk (below_step (by repeat (first | (with_reducible first | exact HB.out | apply below_alloc | apply pw_below_drewN | apply below_drew1) | exact HB.out)) hb); have n5_ := Aside0.mk (hbox); have n6_ := Aside0.mk ((by rw [hg]; exact (below_size (by repeat (first | (with_reducible first | exact HB.out | apply below_alloc | apply pw_below_drewN | apply below_drew1) | exact HB.out))) : w.heap.size ≤ gb121)); have n7_ := Aside0.mk ((by rw [hg]; exact (below_size (by repeat (first | (with_reducible first | exact HB.out | apply below_alloc | apply pw_below_drewN | apply below_drew1) | exact HB.out))) : w.heap.size ≤ gb121)); clear HO_3; clear HO_6; clear HL120_1; clear HR120_1; clear HB; have HO_3 := n0_; have HO_6 := n1_; have HL120_1 := n2_; have HR120_1 := n3_; have HB := n4_; have BK121 := n5_; have GW121 := n6_; have GE121 := n7_; clear n0_ n1_ n2_ n3_ n4_ n5_ n6_ n7_; clear hb hbox hg; have hcz7_0 : w6.cell? ⟨gb121, 0, none⟩ = some (.int .u8 0) := (blk_cell BK121.out 0).trans rfl; have hcz7_1 : w6.cell? ⟨gb121, 1, none⟩ = some (.slice none 0 0) := (blk_cell BK121.out 1).trans rfl; have hfz7_0 := blk_frozen BK121.out 0; have hfz7_1 := blk_frozen BK121.out 1) | ((with_reducible refine gate_store (t := 43) (p := 5) rfl ?_); refine store_event (t := 43) (p := 5) (v := ?vo_w8) (w1 := ((w6.setCell ⟨gb121, 0, none⟩ (.int .u8 ((rd_T43 l0 x8_1).f0))).setCell ⟨gb121, 1, none⟩ (.slice A120_1 ((rd_T43 l0 x8_1).f1).length c120_1))) ?hg ?ho ?hn ?hr ?_; (case ho => rfl); (case hg => rfl); (case hn => rfl); (case hr => first | (go_simp; done) | (go_simp; rfl)); intro w8 hw; have n0_ : Aside0 (Kd.N k61 61 w8 w.heap.size (fun k_ => (P0_ k_ ∨ w.heap.size ≤ k_) ∧ k_ ≠ gb121) u3 x3_1) := ⟨(by rw [hw]; exact (by (with_reducible repeat (first | apply Kd.N_alloc | apply Kd.N_drewN | apply Kd.N_drew)); exact Kd.N_mono (Kd.N_far (p := ⟨gb121, 1, none⟩) (Kd.N_far (p := ⟨gb121, 0, none⟩) (Kd.N_mono HO_3.out (fun k_ hk => (⟨hk, hk.2⟩ : _ ∧ k_ ≠ gb121))) (fun _ hk => hk.2) (.int .u8 ((rd_T43 l0 x8_1).f0))) (fun _ hk => hk.2) (.slice A120_1 ((rd_T43 l0 x8_1).f1).length c120_1)) (fun _ hk => ⟨hk.1.1, hk.1.2⟩)))⟩; have n1_ : Aside0 (Kd.V k43 43 w8 w.heap.size (fun k_ => (P0_ k_ ∨ w.heap.size ≤ k_) ∧ some k_ ≠ (u3 : Value).ownBlock ∧ k_ ≠ gb121) (.slice (some ad120) l0.length c0) l0) := ⟨(by rw [hw]; exact (by (with_reducible repeat (first | apply Kd.V_alloc | apply Kd.V_drewN | apply Kd.V_drew)); exact Kd.V_mono (Kd.V_far (p := ⟨gb121, 1, none⟩) (Kd.V_far (p := ⟨gb121, 0, none⟩) (Kd.V_mono HO_6.out (fun k_ hk => (⟨hk, hk.2⟩ : _ ∧ k_ ≠ gb121))) (fun _ hk => hk.2) (.int .u8 ((rd_T43 l0 x8_1).f0))) (fun _ hk => hk.2) (.slice A120_1 ((rd_T43 l0 x8_1).f1).length c120_1)) (fun _ hk => ⟨hk.1.1.1, ⟨hk.1.1.2, hk.1.2⟩⟩)))⟩; have n2_ : Aside0 (Kd.V (Kd.int .u8) 5 w8 w.heap.size (fun k_ => (P0_ k_ ∨ w.heap.size ≤ k_) ∧ some k_ ≠ (u3 : Value).ownBlock ∧ k_ ≠ gb121) (.slice A120_1 ((rd_T43 l0 x8_1).f1).length c120_1) ((rd_T43 l0 x8_1).f1)) := ⟨(by rw [hw]; exact (by (with_reducible repeat (first | apply Kd.V_alloc | apply Kd.V_drewN | apply Kd.V_drew)); exact Kd.V_mono (Kd.V_far (p := ⟨gb121, 1, none⟩) (Kd.V_far (p := ⟨gb121, 0, none⟩) (Kd.V_mono HL120_1.out (fun k_ hk => (⟨hk, hk.2⟩ : _ ∧ k_ ≠ gb121))) (fun _ hk => hk.2) (.int .u8 ((rd_T43 l0 x8_1).f0))) (fun _ hk => hk.2) (.slice A120_1 ((rd_T43 l0 x8_1).f1).length c120_1)) (fun _ hk => ⟨hk.1.1.1, ⟨hk.1.1.2, hk.1.2⟩⟩)))⟩; have n3_ : Aside0 (w8.heap[gb121]? = some (.cells #[.int .u8 ((rd_T43 l0 x8_1).f0), .slice A120_1 ((rd_T43 l0 x8_1).f1).length c120_1] 43 (0, 0))) := ⟨(by rw [hw]; exact (by (with_reducible repeat (first | refine blk_drewN ?_ _ | refine blk_drew ?_ | refine blk_alloc ?_ _)); refine blk_put (cs := #[.int .u8 ((rd_T43 l0 x8_1).f0), .slice none 0 0]) ?_ 1 _ rfl; (with_reducible repeat (first | refine blk_drewN ?_ _ | refine blk_drew ?_ | refine blk_alloc ?_ _)); refine blk_put (cs := #[.int .u8 0, .slice none 0 0]) ?_ 0 _ rfl; (with_reducible repeat (first | refine blk_drewN ?_ _ | refine blk_drew ?_ | refine blk_alloc ?_ _)); exact BK121.out))⟩; have n4_ : Aside0 (Below w.heap.size w w8) := ⟨(by rw [hw]; exact (by repeat (first | (with_reducible first | exact HB.out | apply below_alloc | apply pw_below_drewN | apply below_drew1 | refine below_set ?_ GE121.out) | exact HB.out)))⟩; clear hw; clear HO_3; clear HO_6; clear HL120_1; clear BK121; clear HB; have HO_3 := n0_; have HO_6 := n1_; have HL120_1 := n2_; have BK121 := n3_; have HB := n4_; clear n0_ n1_ n2_ n3_ n4_; have hcz9_0 : w8.cell? ⟨gb121, 0, none⟩ = some (.int .u8 ((rd_T43 l0 x8_1).f0)) := (blk_cell BK121.out 0).trans rfl; have hcz9_1 : w8.cell? ⟨gb121, 1, none⟩ = some (.slice A120_1 ((rd_T43 l0 x8_1).f1).length c120_1) := (blk_cell BK121.out 1).trans rfl; have hfz9_0 := blk_frozen BK121.out 0; have hfz9_1 := blk_frozen BK121.out 1) | ((with_reducible refine gate_builtin (b := .append) (xs := #[.tmp 12, .tmp 18]) rfl ?_); at_builtin; refine Kd.N_append k61 (w0 := w) w.heap.size rfl (.tmp 12) (.tmp 18) 27 61 (.agg #[(.int .u8 0), (.slice none 0 0)]) 32 rfl Try.underlying27 info61 rfl (by decide) (by omega) u3 x3_1 (⟨(rd_T43 l0 x8_1).f0, (rd_T43 l0 x8_1).f1⟩ : S61) [.int .u8 ((rd_T43 l0 x8_1).f0), .slice A120_1 ((rd_T43 l0 x8_1).f1).length c120_1] (fun k_ => (P0_ k_ ∨ w.heap.size ≤ k_) ∧ k_ ≠ gb121) (fun k_ => ((fun k_ => (P0_ k_ ∨ w.heap.size ≤ k_) ∧ k_ ≠ gb121)) k_ ∧ some k_ ≠ (u3 : Value).ownBlock) rfl rfl ?aP (fun _ hk => hk) ?aF ?aO ?aB ?aS ?aL ?_; (case aP => exact (k61_mkF _ _ (⟨(rd_T43 l0 x8_1).f0, (rd_T43 l0 x8_1).f1⟩ : S61) (Kd.V_reads' (Kd.V_mono (ok' := (fun k_ => ((fun k_ => (P0_ k_ ∨ w.heap.size ≤ k_) ∧ k_ ≠ gb121)) k_ ∧ some k_ ≠ (u3 : Value).ownBlock)) (HL120_1.out) (fun k_ hk => ⟨⟨hk.1, hk.2.2⟩, hk.2.1⟩))).2.1 (Kd.V_F (Kd.V_mono (ok' := (fun k_ => ((fun k_ => (P0_ k_ ∨ w.heap.size ≤ k_) ∧ k_ ≠ gb121)) k_ ∧ some k_ ≠ (u3 : Value).ownBlock)) (HL120_1.out) (fun k_ hk => ⟨⟨hk.1, hk.2.2⟩, hk.2.1⟩))))); (case aB => exact (by repeat (first | (with_reducible first | exact HB.out | apply below_alloc | apply pw_below_drewN | apply below_drew1 | refine below_set ?_ GE121.out) | exact HB.out))); (case aF => exact (fun k_ hk => ⟨(.inr (Nat.le_trans (below_size (by repeat (first | (with_reducible first | exact HB.out | apply below_alloc | apply pw_below_drewN | apply below_drew1 | refine below_set ?_ GE121.out) | exact HB.out))) hk)), Kd.freshB (g := gb121) (o := .cells #[.int .u8 ((rd_T43 l0 x8_1).f0), .slice A120_1 ((rd_T43 l0 x8_1).f1).length c120_1] 43 (0, 0)) (by (with_reducible repeat (first | refine blk_drewN ?_ _ | refine blk_drew ?_ | refine blk_alloc ?_ _)); exact BK121.out) k_ hk⟩)); (case aO => exact (by (with_reducible repeat (first | apply Kd.N_alloc | apply Kd.N_drewN | apply Kd.N_drew)); exact HO_3.out)); (case aS => exact (below_size (by repeat (first | (with_reducible first | exact HB.out | apply below_alloc | apply pw_below_drewN | apply below_drew1 | refine below_set ?_ GE121.out) | exact HB.out)))); (case aL => have := LMc5.out; omega); intro v123 w10 ho hb hg hat; rw [← Ny122.out] at ho; have n0_ := Aside0.mk (Kd.V_afterv (ok := (fun k_ => (P0_ k_ ∨ w.heap.size ≤ k_) ∧ k_ ≠ gb121)) (by (with_reducible repeat (first | apply Kd.V_alloc | apply Kd.V_drewN | apply Kd.V_drew)); exact Kd.V_mono HO_6.out (fun _ hk => ⟨⟨hk.1, hk.2.2⟩, hk.2.1⟩)) hg hat); have n1_ := Aside0.mk (Kd.V_afterv (ok := (fun k_ => (P0_ k_ ∨ w.heap.size ≤ k_) ∧ k_ ≠ gb121)) (by (with_reducible repeat (first | apply Kd.V_alloc | apply Kd.V_drewN | apply Kd.V_drew)); exact Kd.V_mono HL120_1.out (fun _ hk => ⟨⟨hk.1, hk.2.2⟩, hk.2.1⟩)) hg hat); have n2_ := Aside0.mk (blk_grown (g := gb121) (o := .cells #[.int .u8 ((rd_T43 l0 x8_1).f0), .slice A120_1 ((rd_T43 l0 x8_1).f1).length c120_1] 43 (0, 0)) (by (with_reducible repeat (first | refine blk_drewN ?_ _ | refine blk_drew ?_ | refine blk_alloc ?_ _)); exact BK121.out) hg (Kd.N_ne HO_3.out BK121.out (by decide))); have n3_ := Aside0.mk (hb); have n4_ := Aside0.mk (ho); clear HO_6; clear HL120_1; clear BK121; clear HB; clear HO_3; have HO_6 := n0_; have HL120_1 := n1_; have BK121 := n2_; have HB := n3_; have HO124 := n4_; clear n0_ n1_ n2_ n3_ n4_; clear ho hb hg hat))
              go_roundg k1
              case measure => have := HK1.out; omega
              case rel => exact ⟨(y122), (wrap64 (x8_1 + 1)), (by first | rfl | (simp; done) | (simp [*]; done)), H', ⟨by have := HK1.out; omega⟩, ⟨by (with_reducible repeat (first | apply Kd.N_alloc | apply Kd.N_drewN | apply Kd.N_drew)); exact Kd.N_mono HO124.out (fun _ hk => hk.1)⟩, ⟨by (with_reducible repeat (first | apply Kd.V_alloc | apply Kd.V_drewN | apply Kd.V_drew)); exact Kd.V_mono HO_6.out (fun _ hk => ⟨hk.1.1, hk.2⟩)⟩, ⟨by repeat (first | (with_reducible first | exact HB.out | apply below_alloc | apply pw_below_drewN | apply below_drew1 | refine below_set ?_ GE121.out) | exact HB.out)⟩⟩
            · rw [if_neg c5] at H
              exact absurd H (by simp)
          · rw [if_neg c4] at H
            exact absurd H (by simp)
        · rw [if_neg c3] at H
          exact absurd H (by simp)
      · rw [if_neg c2] at H
        have c2b0 : decide (x8_1 < (l0.length : Int)) = false := decide_eq_false c2
        clear c2
        obtain rfl := Option.some.inj H
        go_wp2
        go_ret
        exact ⟨_, by first | rfl | (simp [errW_none, errW_some] <;> rfl) | (simp [*, errW_none, errW_some] <;> rfl), by (with_reducible repeat (first | apply Kd.N_alloc | apply Kd.N_drewN | apply Kd.N_drew)); exact HO_3.out, by repeat (first | (with_reducible first | exact HB.out | apply below_alloc | apply pw_below_drewN | apply below_drew1) | exact HB.out)⟩

end Go.Proofs.Ytgpgoffnfdjhcaa.PBlockWants
