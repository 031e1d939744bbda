/-
  WaveTables: the table is written only while it is told so, and read as it was written. By the prover of this repo.
-/
import Derived.Test.YtkmdhpmgbcdlmaaDoorWavC
import Derived.Laws.Rows
namespace Go.Proofs.YtkmdhpmgbcdlmaaDoor.Wave
open Go.RowKit Go.Proofs.YtkmdhpmgbcdlmaaDoorW.PrintWords Go.Proofs.YtkmdhpmgbcdlmaaDoorW.PrintLast Go.Proofs.YtkmdhpmgbcdlmaaDoorW.PrintMore
set_option linter.unusedVariables false
set_option linter.unusedSimpArgs false
/-! ### what stands in the wave -/
def vT (o : Bool) (G : Int) (T : List Int) : V := { (if o = true then mas (vol v0 G) 128 else vol v0 G) with table := T }
def tabP (T : List Int) : Prop := T.length = 64 ∧ ∀ i, 0 ≤ rd T i ∧ rd T i < 64
theorem tabP_zs : tabP (zs 64) := ⟨by decide, fun i => by rw [rd_zs]; decide⟩
theorem tabP_set {T : List Int} (h : tabP T) (i : Nat) (b : Int) : tabP (T.set i (b % 64)) :=
  ⟨by rw [List.length_set]; exact h.1, rd_set_P (fun x => 0 ≤ x ∧ x < 64) T i _ (by omega) h.2⟩
theorem vol_off (G : Int) : ¬ on (vol v0 G) := by
  unfold on
  rw [show rd (vol v0 G).reg 9 = 0 from rfl]
  decide
theorem vol_out (G : Int) : outV (vol v0 G) = 0 := by
  unfold outV
  rw [if_neg (vol_off G), show (vol v0 G).table = zs 64 from rfl, rd_zs, Int.zero_mul, Int.zero_mul]
theorem mas_on (G : Int) : mas (vol v0 G) 128 = { regV (vol v0 G) 9 128 with held := 0 } := by
  unfold mas
  rw [if_pos ⟨by decide, vol_off G⟩, vol_out]
theorem vT_true (G : Int) (T : List Int) : vT true G T = { regV (vol v0 G) 9 128 with held := 0, table := T } := by
  unfold vT
  rw [if_pos rfl, mas_on]
theorem vT_false (G : Int) (T : List Int) : vT false G T = { vol v0 G with table := T } := by
  unfold vT
  rw [if_neg (by decide)]
theorem vT_start (o : Bool) (G : Int) : vT o G (zs 64) = if o = true then mas (vol v0 G) 128 else vol v0 G := by
  cases o
  · rw [vT_false]; rfl
  · rw [vT_true, if_pos rfl, mas_on]; rfl
theorem vT_wf (o : Bool) {G : Int} (hG : U8 G) {T : List Int} (hT : tabP T) : Wf (vT o G T) := by
  have h : Wf (vT o G (zs 64)) := by
    rw [vT_start]
    cases o
    · exact wf0.vol G hG
    · exact (wf0.vol G hG).mas 128 ⟨by decide, by decide⟩
  exact ⟨hT.2, h.turns, h.reg, h.vgain, h.mgain, h.vreg, h.mreg, h.wat, h.bat, h.held⟩
theorem vT_tab (o : Bool) (G : Int) (T : List Int) (i b : Int) : tab (vT o G T) i b = vT o G (if o = true then T.set i.toNat (b % 64) else T) := by
  unfold tab
  cases o
  · rw [vT_false, if_neg (show ¬ on { vol v0 G with table := T } from vol_off G), if_neg (by decide), vT_false]
  · rw [vT_true, if_pos (by rw [show on _ = (128 ≤ (128 : Int)) from rfl]; decide), if_pos rfl, vT_true]
theorem vT_out (o : Bool) (G : Int) (T : List Int) (h : o = true ∨ T = zs 64) : outV (vT o G T) = 0 := by
  cases o
  · rcases h with h | rfl
    · cases h
    · rw [vT_start, if_neg (by decide)]; exact vol_out G
  · rw [vT_true]
    unfold outV
    rw [if_pos (by rw [show on _ = (128 ≤ (128 : Int)) from rfl]; decide)]
theorem vT_end (o : Bool) (G : Int) (hG : 128 ≤ G) (T : List Int) : outV (mas (vT o G T) 0) = rd T 0 * min (G % 64) 32 * 30 := by
  unfold mas
  rw [if_neg (fun h => absurd h.1 (by decide))]
  have hg : (vol v0 G).vgain = G % 64 := by unfold vol; exact if_pos hG
  unfold outV
  cases o
  · rw [vT_false, if_neg (by rw [show on _ = (128 ≤ (0 : Int)) from rfl]; decide)]
    show rd T 0 * min (vol v0 G).vgain 32 * rd ML 0 = _
    rw [hg]; rfl
  · rw [vT_true, if_neg (by rw [show on _ = (128 ≤ (0 : Int)) from rfl]; decide)]
    show rd T 0 * min (vol v0 G).vgain 32 * rd ML 0 = _
    rw [hg]; rfl
theorem or128 (x : Int) (h0 : 0 ≤ x) (h1 : x < 256) : 128 ≤ Go.bits .or .u8 128 x ∧ Go.bits .or .u8 128 x < 256 ∧ Go.bits .or .u8 128 x % 64 = x % 64 :=
  fin_u8 (fun x => 128 ≤ Go.bits .or .u8 128 x ∧ Go.bits .or .u8 128 x < 256 ∧ Go.bits .or .u8 128 x % 64 = x % 64) (by decide +kernel) x h0 h1
theorem zero64_run (W : World) : Sem.run Tryd.prog (zeroValue 28) W = .ok (.agg (u8s (zs 64)).toArray) W := by
  have h : (Tryd.prog.info? 28).map (fun i => i.zero) = some (some (.agg (u8s (zs 64)).toArray)) := by kernel_rfl
  obtain ⟨i, hi, hz⟩ := Option.map_eq_some_iff.1 h
  simp [zeroValue, typeInfo, hi, hz]
theorem At.set64 {W : World} {g : Nat} {T : List Int} (h : At W g 28 (u8s T).toArray) (i : Nat) (b : Int) : At (W.setCell ⟨g, i, none⟩ (.int .u8 b)) g 28 (u8s (T.set i b)).toArray := by
  have := h.set_ i (.int .u8 b)
  rw [List.setIfInBounds_toArray, u8s_set] at this
  exact this
theorem At.at64 {W : World} {g : Nat} {T : List Int} (hl : T.length = 64) (h : At W g 28 (u8s T).toArray) (i : Int) (h0 : 0 ≤ i) (h1 : i < 64) : W.cell? ⟨g, i.toNat, none⟩ = some (.int .u8 (rd T i)) := by
  rw [h.cell, List.getElem?_toArray, u8s_at _ _ (by omega), Int.toNat_of_nonneg h0]
theorem index64 (cs : Array Value) (k : Int) (b : Int) (h0 : 0 ≤ k) (h1 : k < 64) (hc : cs[k.toNat]? = some (.int .u8 b)) (W : World) : Sem.run Tryd.prog (Instr.index 28 (.agg cs) (.int .i64 k)) W = .ok (.int .u8 b) W := by
  have hi : (Tryd.prog.info? 5).map (·.size) = some 1 := by kernel_rfl
  obtain ⟨i0, hi0, hs⟩ := Option.map_eq_some_iff.1 hi
  have hu := Tryd.underlying5
  have hlt : k.toNat < cs.size := (Array.getElem?_eq_some_iff.1 hc).1
  simp [Instr.index, run_underlying Tryd.underlying28, asIntOf, h0, h1, part, sizeOf, typeInfo, hi0, hs, hc, isAgg, run_underlying hu, go_sem]
theorem vol_eq (y s : Int) (y0 : 0 ≤ y) (y1 : y < 64) (s0 : 0 ≤ s) (s1 : s ≤ 32) : wrap64 (wrap64 (wrap64 y * s) * 30) = y * s * 30 := by
  have h1 : y * s ≤ 63 * 32 := Int.mul_le_mul (by omega) s1 s0 (by decide)
  have h0 : 0 ≤ y * s := Int.mul_nonneg y0 s0
  have hw : ∀ x : Int, 0 ≤ x → x ≤ 1000000 → wrap64 x = x := by intro x _ _; unfold wrap64; omega
  rw [hw y (by omega) (by omega), hw (y * s) (by omega) (by omega), hw (y * s * 30) (by omega) (by omega)]
/-! ### the walk -/
set_option maxHeartbeats 4000000 in
theorem tables_walk (l0 l1 : List Int) (A0 A1 : Option Addr) (c0 c1 : Nat) (o : Bool) (gain : Int) (W : World) (hm : MS W) (hg : 0 < W.heap.size) (R0 : (Kd.int .u8).C W A0 l0.length l0) (R1 : (Kd.int .u8).C W A1 l1.length l1) (b0 : ∀ i, U8 (rd l0 i)) (b1 : ∀ i, U8 (rd l1 i)) (n0 : l0.length ≤ 9223372036854775807) (n1 : l1.length ≤ 9223372036854775807) (hgain : U8 gain) :
    Calls Tryd.prog 3 #[.slice A0 l0.length c0, .slice A1 l1.length c1, .bool o, .int .u8 gain] W fun e W' => e = .returned (.bool true) ∧ Below W.heap.size W W' := by
  have HM := Aside0.mk hm
  have HGM := Aside0.mk hg
  have HR0 := Aside0.mk R0
  have HR1 := Aside0.mk R1
  have HN := Aside0.mk (And.intro n0 n1)
  have HU := Aside0.mk (And.intro b0 b1)
  have HGN := Aside0.mk hgain
  have hG := or128 gain hgain.1 hgain.2
  clear hm hg R0 R1 n0 n1 b0 b1 hgain
  generalize hGe : Go.bits .or .u8 128 gain = G at hG
  have HG := Aside0.mk hG
  have HUG := Aside0.mk (show U8 G from ⟨by omega, hG.2.1⟩)
  clear hG
  go_enter Tryd.func3, Tryd.ntmps3
  go_wp2_with (go_at_call 9; refine (awake_calls W HM.out HGM.out).mono ?_; rintro e w1 ⟨rfl, hb⟩; have HB1 := Aside0.mk hb; clear hb)
  refine (new_calls W.heap.size _ HB1.out.size).mono ?_
  rintro e w2 ⟨g, rfl, hi, hb, hg⟩
  have HI2 := Aside0.mk hi; have HB2 := Aside0.mk (HB1.out.trans (hb.mono HB1.out.size)); clear hi hb hg
  go_wp2_with fail
  refine (put_vol W.heap.size g v0 _ HI2.out wf0 (HM.out.below HB2.out HGM.out) G HUG.out).mono ?_
  rintro e w3 ⟨rfl, hi, ht⟩
  have HI3 := Aside0.mk hi; have HB3 := Aside0.mk (HB2.out.trans ht.below); clear hi ht
  cases o
  · have z := zero64_run w3
    go_wp2_with fail
    have HA := Aside0.mk (show At (w3.alloc (.cells (u8s (zs 64)).toArray 28)) w3.heap.size 28 (u8s (zs 64)).toArray from heap_alloc_new w3 _)
    have HI5 := Aside0.mk (show Is W.heap.size (w3.alloc (.cells (u8s (zs 64)).toArray 28)) g (vT false G (zs 64)) from by rw [vT_start]; exact HI3.out.below (below_alloc (Below.refl _ _) _))
    have HB5 := Aside0.mk (below_alloc HB3.out (.cells (u8s (zs 64)).toArray 28))
    have HNE := Aside0.mk (show g ≠ w3.heap.size ∧ W.heap.size ≤ w3.heap.size from ⟨by have := HI3.out.at_.lt; omega, HB3.out.size⟩)
    clear z HI2 HB1 HB2 HI3 HB3
    generalize w3.alloc (.cells (u8s (zs 64)).toArray 28) = w5 at *
    generalize w3.heap.size = g2 at *
    go_loopg [29] l0.length (fun kq v29 w' => ∃ (i : Int) (T : List Int), v29 = .int .i64 i ∧ Aside0 (Is W.heap.size w' g (vT false G T) ∧ tabP T ∧ (false = true ∨ T = zs 64) ∧ i + kq = l0.length ∧ 0 ≤ i) ∧ Aside0 (At w' g2 28 (u8s T).toArray) ∧ Aside0 (Below W.heap.size W w'))
    case atStart => exact ⟨0, zs 64, rfl, ⟨HI5.out, tabP_zs, .inr rfl, by omega, by decide⟩, HA, HB5⟩
    case round =>
      obtain ⟨i, T, rfl, HR, HT, HB⟩ := hrel
      obtain ⟨hi, hT, hz, hk, hi0⟩ := HR.out
      by_cases hlt : i < l0.length
      · have d1 : decide (i < (l0.length : Int)) = true := decide_eq_true hlt
        obtain ⟨ad, ea, -⟩ := Kd.at_int HR0.out i hi0 hlt
        subst ea
        have hx : wr.cell? (ad.add i.toNat) = some (.int .u8 (rd l0 i)) := by obtain ⟨ad', ea, hx⟩ := Kd.at_int (Kd.C_below HR0.out HB.out) i hi0 hlt; cases ea; exact hx
        have q0 := eq_true hi0
        have q1 := eq_true hlt
        have e1 : wrap64 (i + 1) = i + 1 := by have := HN.out.1; unfold wrap64; omega
        have HK := Aside0.mk (show i + gk = l0.length ∧ i < l0.length ∧ 0 ≤ i from ⟨hk, hlt, hi0⟩)
        have HTZ := Aside0.mk (And.intro hT hz)
        have HI := Aside0.mk hi
        clear HR hi hT hz hk
        by_cases hin : i < l1.length ∧ i < 100
        · obtain ⟨h1, h2⟩ := hin
          obtain ⟨ad1, ea, -⟩ := Kd.at_int HR1.out i hi0 h1
          subst ea
          have HX1 := Aside0.mk (fun (W1 : World) (hb : Below W.heap.size W W1) => (by obtain ⟨ad', ea, hx⟩ := Kd.at_int (Kd.C_below HR1.out hb) i hi0 h1; cases ea; exact hx : W1.cell? (ad1.add i.toNat) = some (.int .u8 (rd l1 i))))
          have hx1 := HX1.out wr HB.out
          have k1 : decide (i < (l1.length : Int)) = true := decide_eq_true h1
          have k2 : decide (i < 100) = true := decide_eq_true h2
          have q2 := eq_true h1
          have hu0 := HU.out.1 i
          have hu1 := HU.out.2 i
          have HU1 := Aside0.mk hu1
          unfold U8 at hu0
          have m1 : (rd l0 i).tmod 64 = rd l0 i % 64 := Int.tmod_eq_emod_of_nonneg hu0.1
          have hm0 : 0 ≤ rd l0 i % 64 := Int.emod_nonneg _ (by decide)
          have hm1 : rd l0 i % 64 < 64 := Int.emod_lt_of_pos _ (by decide)
          generalize rd l0 i % 64 = m at m1 hm0 hm1
          have m2 : IntKind.u16.wrap m = m := by rw [IntKind.wrap_u16]; omega
          have m3 : IntKind.u16.wrap (16448 + m) = 16448 + m := by rw [IntKind.wrap_u16]; omega
          have m4 : IntKind.u8.wrap m = m := by rw [IntKind.wrap_u8]; omega
          have HMM := Aside0.mk (And.intro hm0 hm1)
          clear hi0 hlt h1 h2 hu0 hu1 hm0 hm1
          go_wp2_with fail
          refine (put_tab W.heap.size g (vT false G T) wr HI.out (vT_wf false HUG.out HTZ.out.1) (16448 + m) (by have := HMM.out; omega) (by have := HMM.out; omega) (rd l1 i) HU1.out).mono ?_
          rintro e w6 ⟨rfl, hi, ht⟩
          rw [vT_tab, show 16448 + m - 16448 = m by omega] at hi
          have HI6 := Aside0.mk hi
          have HT6 := Aside0.mk (show At w6 g2 28 (u8s T).toArray from (ht.kept g2 HT.out.lt (fun e => HNE.out.1 e.symm)).trans HT.out)
          have HB6 := Aside0.mk (HB.out.trans ht.below)
          clear hi ht hx hx1
          rw [if_neg (by decide)] at HI6
          have HO := Aside0.mk (out_calls W.heap.size g _ w6 HI6.out (vT_wf false HUG.out HTZ.out.1) (HM.out.below HB6.out HGM.out))
          rw [vT_out false G T HTZ.out.2] at HO
          go_wp2_with (go_at_call 12; refine HO.out.mono ?_; rintro e w7 ⟨rfl, n7, rfl⟩)
          go_roundg (gk - 1)
          case measure => have := HK.out; omega
          case rel =>
            have := HK.out
            exact ⟨i + 1, T, by first | rfl | (congr 1), ⟨HI6.out.drewN n7, HTZ.out.1, HTZ.out.2, by omega, by omega⟩, ⟨HT6.out.drewN n7⟩, ⟨pw_below_drewN HB6.out n7⟩⟩
        · by_cases h1 : i < l1.length
          case' pos =>
            have k1 : decide (i < (l1.length : Int)) = true := decide_eq_true h1
            have k2 : decide (i < 100) = false := decide_eq_false (by omega)
            clear hin h1 hi0 hlt
            go_wp2
          case' neg =>
            have k1 : decide (i < (l1.length : Int)) = false := decide_eq_false h1
            clear hin h1 hi0 hlt
            go_wp2
          all_goals
            go_roundg (gk - 1)
            case measure => have := HK.out; omega
            case rel =>
              have := HK.out
              exact ⟨i + 1, T, by first | rfl | (congr 1), ⟨HI.out, HTZ.out.1, HTZ.out.2, by omega, by omega⟩, HT, HB⟩
      · have d1 : decide (i < (l0.length : Int)) = false := decide_eq_false hlt
        have HTZ := Aside0.mk (And.intro hT hz)
        have HI := Aside0.mk hi
        have hsz : (Tryd.prog.info? 28).map (·.size) = some (u8s T).toArray.size := by rw [List.size_toArray, u8s_len, hT.1]; kernel_rfl
        have hcs : ∀ k : Int, 0 ≤ k → k < 64 → (u8s T).toArray[k.toNat]? = some (.int .u8 (rd T k)) := fun k h0 h1 => by rw [List.getElem?_toArray, u8s_at _ _ (by have := hT.1; omega), Int.toNat_of_nonneg h0]
        have HS := Aside0.mk hsz
        have HC := Aside0.mk hcs
        clear HR hi hT hz hk hi0 hlt hsz hcs
        generalize (u8s T).toArray = cs at *
        go_wp2_with (refine wpList_load_row rfl 28 _ rfl g2 rfl 28 _ (0, 0) _ HT.out Tryd.underlying28 rfl HS.out ?_)
        have HB7 := HB
        have HI7 := HI
        have HT7 := HT
        clear HB HI HT
        go_loopg [66] 64 (fun kq v66 w' => ∃ k : Int, v66 = .int .i64 k ∧ Aside0 (Is W.heap.size w' g (vT false G T) ∧ k + kq = 64 ∧ 0 ≤ k) ∧ Aside0 (At w' g2 28 cs) ∧ Aside0 (Below W.heap.size W w'))
        case atStart => exact ⟨0, rfl, ⟨HI7.out, by decide, by decide⟩, HT7, HB7⟩
        case round =>
          obtain ⟨k, rfl, HR, HT, HB⟩ := hrel
          obtain ⟨hi, hk, hk0⟩ := HR.out
          by_cases hlt : k < 64
          · have d2 : decide (k < 64) = true := decide_eq_true hlt
            have hc := HC.out k hk0 hlt
            have HK := Aside0.mk (show k + gk = 64 ∧ k < 64 ∧ 0 ≤ k from ⟨hk, hlt, hk0⟩)
            have HI := Aside0.mk hi
            have q0 := eq_true hk0
            have q1 := eq_true hlt
            have e1 : wrap64 (k + 1) = k + 1 := by unfold wrap64; omega
            have e2 : IntKind.u16.wrap k = k := by rw [IntKind.wrap_u16]; omega
            have e3 : IntKind.u16.wrap (16448 + k) = 16448 + k := by rw [IntKind.wrap_u16]; omega
            have hgv : getV (vT false G T) (16448 + k) = (rd T k + 64, true) := by
              unfold getV
              rw [if_pos ⟨by omega, by omega⟩, show 16448 + k - 16448 = k by omega]
              rfl
            have ho := or64 (rd T k) (HTZ.out.1.2 k).1 (HTZ.out.1.2 k).2
            have HG2 := Aside0.mk (get_calls W.heap.size g (vT false G T) wr HI.out (vT_wf false HUG.out HTZ.out.1) (16448 + k) (by omega) (by omega))
            rw [hgv] at HG2
            have hix := index64 cs k _ hk0 hlt hc wr
            clear HR hi hk hk0 hlt hgv
            go_wp2_with (go_at_call 13; refine HG2.out.mono ?_; rintro e w7 ⟨rfl, rfl⟩)
            go_roundg (gk - 1)
            case measure => have := HK.out; omega
            case rel =>
              have := HK.out
              exact ⟨k + 1, by first | rfl | (congr 1), ⟨HI.out, by omega, by omega⟩, HT, HB⟩
          · have d2 : decide (k < 64) = false := decide_eq_false hlt
            have HI := Aside0.mk hi
            clear HR hi hk hk0 hlt
            go_wp2_with fail
            refine (put_mas W.heap.size g (vT false G T) wr HI.out (vT_wf false HUG.out HTZ.out.1) (HM.out.below HB.out HGM.out) 0 ⟨by decide, by decide⟩).mono ?_
            rintro e w8 ⟨rfl, hi, ht⟩
            have HI8 := Aside0.mk hi
            have HT8 := Aside0.mk (show At w8 g2 28 cs from (ht.kept g2 HT.out.lt (fun e => HNE.out.1 e.symm)).trans HT.out)
            have HB8 := Aside0.mk (HB.out.trans ht.below)
            have cw : w8.drew.cell? ⟨g2, 0, none⟩ = some (.int .u8 (rd T 0)) := by rw [HT8.out.drew.cell]; exact HC.out 0 (by decide) (by decide)
            have HO := Aside0.mk (out_calls W.heap.size g _ w8.drew HI8.out.drew ((vT_wf false HUG.out HTZ.out.1).mas 0 ⟨by decide, by decide⟩) (HM.out.below HB8.out.drew HGM.out))
            rw [vT_end false G HG.out.1, HG.out.2.2] at HO
            have a63 := and63 gain HGN.out.1 HGN.out.2
            clear hi ht HB HI HT HI7 HB7 HT7
            go_wp2_with fail
            refine start_ (n := 13) (S := fun w' => w'.cell? ⟨g2, 0, none⟩ = some (.int .u8 (rd T 0))) (ds := []) #[false, false, false, false, false, false, false, false, false, false, false, false, false] (by kernel_rfl) rfl rfl (cw) (fun hHeld => ?_)
            refine pure_ (i := 0) (N := some 89) (v := ?_) (a' := ?_) #[true, false, false, false, false, false, false, false, false, false, false, false, false] rfl rfl (by kernel_rfl) (fun _ _ _ h => h) (Or.inl ⟨by rfl, ?_⟩) ?_ ?_
            rotate_left
            · intro w'
              go_simp
              with_reducible rfl
            rotate_left
            · simp only [Act.put, List.setIfInBounds_toArray, List.set_cons_zero, List.set_cons_succ, i64_w, i32_w]
              rfl
            refine pure_ (i := 2) (N := some 91) (v := ?_) (a' := ?_) #[true, false, true, false, false, false, false, false, false, false, false, false, false] rfl rfl (by kernel_rfl) (fun _ _ _ h => h) (Or.inl ⟨by rfl, ?_⟩) ?_ ?_
            rotate_left
            · intro w'
              go_simp
              with_reducible rfl
            rotate_left
            · simp only [Act.put, List.setIfInBounds_toArray, List.set_cons_zero, List.set_cons_succ, i64_w, i32_w]
              rfl
            refine pure_ (i := 5) (N := some 94) (v := ?_) (a' := ?_) #[true, false, true, false, false, true, false, false, false, false, false, false, false] rfl rfl (by kernel_rfl) (fun _ _ _ h => h) (Or.inl ⟨by rfl, ?_⟩) ?_ ?_
            rotate_left
            · intro w'
              go_simp
              with_reducible rfl
            rotate_left
            · simp only [Act.put, List.setIfInBounds_toArray, List.set_cons_zero, List.set_cons_succ, i64_w, i32_w]
              rfl
            refine pure_ (i := 6) (N := some 95) (v := ?_) (a' := ?_) #[true, false, true, false, false, true, true, false, false, false, false, false, false] rfl rfl (by kernel_rfl) (fun _ _ _ h => h) (Or.inl ⟨by rfl, ?_⟩) ?_ ?_
            rotate_left
            · intro w'
              go_simp
              with_reducible rfl
            rotate_left
            · simp only [Act.put, List.setIfInBounds_toArray, List.set_cons_zero, List.set_cons_succ, i64_w, i32_w]
              rfl
            refine pure_ (i := 7) (N := some 96) (v := ?_) (a' := ?_) #[true, false, true, false, false, true, true, true, false, false, false, false, false] rfl rfl (by kernel_rfl) (fun _ _ _ h => h) (Or.inl ⟨by rfl, ?_⟩) ?_ ?_
            rotate_left
            · intro w'
              go_simp
              with_reducible rfl
            rotate_left
            · simp only [Act.put, List.setIfInBounds_toArray, List.set_cons_zero, List.set_cons_succ, i64_w, i32_w]
              rfl
            refine pure_ (i := 8) (N := some 97) (v := ?_) (a' := ?_) #[true, false, true, false, false, true, true, true, true, false, false, false, false] rfl rfl (by kernel_rfl) (fun _ _ _ h => h) (Or.inl ⟨by rfl, ?_⟩) ?_ ?_
            rotate_left
            · intro w'
              go_simp
              with_reducible rfl
            rotate_left
            · simp only [Act.put, List.setIfInBounds_toArray, List.set_cons_zero, List.set_cons_succ, i64_w, i32_w]
              rfl
            refine take_ (i := 3) (N := some 92) (v := ?_) (a' := ?_) #[true, false, true, true, false, true, true, true, true, false, false, false, false] rfl rfl (by kernel_rfl) (fun _ _ _ h => h) (Or.inl ⟨by rfl, ?_⟩) hHeld ?_ ?_
            rotate_left
            · intro w' s0
              go_simp
              with_reducible rfl
            rotate_left
            · simp only [Act.put, List.setIfInBounds_toArray, List.set_cons_zero, List.set_cons_succ, i64_w, i32_w]
              rfl
            refine pure_ (i := 4) (N := some 93) (v := ?_) (a' := ?_) #[true, false, true, true, true, true, true, true, true, false, false, false, false] rfl rfl (by kernel_rfl) (fun _ _ _ h => h) (Or.inl ⟨by rfl, ?_⟩) ?_ ?_
            rotate_left
            · intro w'
              go_simp
              with_reducible rfl
            rotate_left
            · simp only [Act.put, List.setIfInBounds_toArray, List.set_cons_zero, List.set_cons_succ, i64_w, i32_w]
              rfl
            refine pure_ (i := 9) (N := some 98) (v := ?_) (a' := ?_) #[true, false, true, true, true, true, true, true, true, true, false, false, false] rfl rfl (by kernel_rfl) (fun _ _ _ h => h) (Or.inl ⟨by rfl, ?_⟩) ?_ ?_
            rotate_left
            · intro w'
              go_simp
              with_reducible rfl
            rotate_left
            · simp only [Act.put, List.setIfInBounds_toArray, List.set_cons_zero, List.set_cons_succ, i64_w, i32_w]
              rfl
            refine pure_ (i := 10) (N := some 99) (v := ?_) (a' := ?_) #[true, false, true, true, true, true, true, true, true, true, true, false, false] rfl rfl (by kernel_rfl) (fun _ _ _ h => h) (Or.inl ⟨by rfl, ?_⟩) ?_ ?_
            rotate_left
            · intro w'
              go_simp
              with_reducible rfl
            rotate_left
            · simp only [Act.put, List.setIfInBounds_toArray, List.set_cons_zero, List.set_cons_succ, i64_w, i32_w]
              rfl
            refine one_ (i := 1) (N := some 90) #[true, true, true, true, true, true, true, true, true, true, true, false, false] rfl rfl (by kernel_rfl) (by decide) (fun K hK => ?_)
            refine goes_ Tryd.func12 (by kernel_rfl) rfl #[.pointer (some ⟨g, 0, none⟩)] (by rfl) rfl rfl (by simp only [List.map_toArray, List.map_cons, List.map_nil]; rfl) ?_
            with_reducible refine (HO.out).mono ?_
            rintro e w9 ⟨rfl, n9, rfl⟩
            refine ⟨_, rfl, ?_⟩
            refine hK.out _ _ (cw) (fun hHeld => ?_)
            clear hK K
            refine norm_ (a' := ?_) ?_ ?_
            rotate_left
            · show Act.put _ (some 90) _ = _
              simp only [Act.put, List.setIfInBounds_toArray, List.set_cons_zero, List.set_cons_succ, i64_w, i32_w]
              rfl
            refine pure_ (i := 11) (N := some 100) (v := ?_) (a' := ?_) #[true, true, true, true, true, true, true, true, true, true, true, true, false] rfl rfl (by kernel_rfl) (fun _ _ _ h => h) (Or.inl ⟨by rfl, ?_⟩) ?_ ?_
            rotate_left
            · intro w'
              go_simp
              with_reducible rfl
            rotate_left
            · simp only [Act.put, List.setIfInBounds_toArray, List.set_cons_zero, List.set_cons_succ, i64_w, i32_w]
              rfl
            refine pure_ (i := 12) (N := some 8) (v := ?_) (a' := ?_) #[true, true, true, true, true, true, true, true, true, true, true, true, true] rfl rfl (by kernel_rfl) (fun _ _ _ h => h) (Or.inl ⟨by rfl, ?_⟩) ?_ ?_
            rotate_left
            · intro w'
              go_simp
              with_reducible rfl
            rotate_left
            · simp only [Act.put, List.setIfInBounds_toArray, List.set_cons_zero, List.set_cons_succ, i64_w, i32_w]
              rfl
            refine done_ (by kernel_rfl) ?_
            go_wp2_with fail
            all_goals go_ret
            all_goals refine ⟨?_, pw_below_drewN HB8.out _⟩
            all_goals have hT0 := HTZ.out.1.2 0
            all_goals have w0 : wrap64 (gain % 64) = gain % 64 := (by unfold wrap64; omega)
            all_goals rw [w0] at h
            · have e9 : (rd T 0 * min (gain % 64) 32 * 30 == wrap64 (wrap64 (wrap64 (rd T 0) * 32) * 30)) = true := by
                rw [vol_eq _ _ hT0.1 hT0.2 (by decide) (by decide), show min (gain % 64) 32 = 32 by omega, beq_self_eq_true]
              exact congrArg (fun b => Ending.returned (.bool b)) e9
            · have e9 : (rd T 0 * min (gain % 64) 32 * 30 == wrap64 (wrap64 (wrap64 (rd T 0) * wrap64 (gain % 64)) * 30)) = true := by
                rw [w0, vol_eq _ _ hT0.1 hT0.2 (by omega) h, show min (gain % 64) 32 = gain % 64 by omega, beq_self_eq_true]
              exact congrArg (fun b => Ending.returned (.bool b)) e9
  · go_wp2_with fail
    refine (put_mas W.heap.size g (vol v0 G) _ HI3.out (wf0.vol G HUG.out) (HM.out.below HB3.out HGM.out) 128 ⟨by decide, by decide⟩).mono ?_
    rintro e w4 ⟨rfl, hi, ht⟩
    have HI4 := Aside0.mk hi; have HB4 := Aside0.mk (HB3.out.trans ht.below); clear hi ht
    have z := zero64_run w4
    go_wp2_with fail
    clear HI3 HB3
    have HI3 := HI4
    have HB3 := HB4
    clear HI4 HB4
    have HA := Aside0.mk (show At (w4.alloc (.cells (u8s (zs 64)).toArray 28)) w4.heap.size 28 (u8s (zs 64)).toArray from heap_alloc_new w4 _)
    have HI5 := Aside0.mk (show Is W.heap.size (w4.alloc (.cells (u8s (zs 64)).toArray 28)) g (vT true G (zs 64)) from by rw [vT_start]; exact HI3.out.below (below_alloc (Below.refl _ _) _))
    have HB5 := Aside0.mk (below_alloc HB3.out (.cells (u8s (zs 64)).toArray 28))
    have HNE := Aside0.mk (show g ≠ w4.heap.size ∧ W.heap.size ≤ w4.heap.size from ⟨by have := HI3.out.at_.lt; omega, HB3.out.size⟩)
    clear z HI2 HB1 HB2 HI3 HB3
    generalize w4.alloc (.cells (u8s (zs 64)).toArray 28) = w5 at *
    generalize w4.heap.size = g2 at *
    go_loopg [29] l0.length (fun kq v29 w' => ∃ (i : Int) (T : List Int), v29 = .int .i64 i ∧ Aside0 (Is W.heap.size w' g (vT true G T) ∧ tabP T ∧ (true = true ∨ T = zs 64) ∧ i + kq = l0.length ∧ 0 ≤ i) ∧ Aside0 (At w' g2 28 (u8s T).toArray) ∧ Aside0 (Below W.heap.size W w'))
    case atStart => exact ⟨0, zs 64, rfl, ⟨HI5.out, tabP_zs, .inr rfl, by omega, by decide⟩, HA, HB5⟩
    case round =>
      obtain ⟨i, T, rfl, HR, HT, HB⟩ := hrel
      obtain ⟨hi, hT, hz, hk, hi0⟩ := HR.out
      by_cases hlt : i < l0.length
      · have d1 : decide (i < (l0.length : Int)) = true := decide_eq_true hlt
        obtain ⟨ad, ea, -⟩ := Kd.at_int HR0.out i hi0 hlt
        subst ea
        have hx : wr.cell? (ad.add i.toNat) = some (.int .u8 (rd l0 i)) := by obtain ⟨ad', ea, hx⟩ := Kd.at_int (Kd.C_below HR0.out HB.out) i hi0 hlt; cases ea; exact hx
        have q0 := eq_true hi0
        have q1 := eq_true hlt
        have e1 : wrap64 (i + 1) = i + 1 := by have := HN.out.1; unfold wrap64; omega
        have HK := Aside0.mk (show i + gk = l0.length ∧ i < l0.length ∧ 0 ≤ i from ⟨hk, hlt, hi0⟩)
        have HTZ := Aside0.mk (And.intro hT hz)
        have HI := Aside0.mk hi
        clear HR hi hT hz hk
        by_cases hin : i < l1.length ∧ i < 100
        · obtain ⟨h1, h2⟩ := hin
          obtain ⟨ad1, ea, -⟩ := Kd.at_int HR1.out i hi0 h1
          subst ea
          have HX1 := Aside0.mk (fun (W1 : World) (hb : Below W.heap.size W W1) => (by obtain ⟨ad', ea, hx⟩ := Kd.at_int (Kd.C_below HR1.out hb) i hi0 h1; cases ea; exact hx : W1.cell? (ad1.add i.toNat) = some (.int .u8 (rd l1 i))))
          have hx1 := HX1.out wr HB.out
          have k1 : decide (i < (l1.length : Int)) = true := decide_eq_true h1
          have k2 : decide (i < 100) = true := decide_eq_true h2
          have q2 := eq_true h1
          have hu0 := HU.out.1 i
          have hu1 := HU.out.2 i
          have HU1 := Aside0.mk hu1
          unfold U8 at hu0
          have m1 : (rd l0 i).tmod 64 = rd l0 i % 64 := Int.tmod_eq_emod_of_nonneg hu0.1
          have hm0 : 0 ≤ rd l0 i % 64 := Int.emod_nonneg _ (by decide)
          have hm1 : rd l0 i % 64 < 64 := Int.emod_lt_of_pos _ (by decide)
          generalize rd l0 i % 64 = m at m1 hm0 hm1
          have m2 : IntKind.u16.wrap m = m := by rw [IntKind.wrap_u16]; omega
          have m3 : IntKind.u16.wrap (16448 + m) = 16448 + m := by rw [IntKind.wrap_u16]; omega
          have m4 : IntKind.u8.wrap m = m := by rw [IntKind.wrap_u8]; omega
          have HMM := Aside0.mk (And.intro hm0 hm1)
          clear hi0 hlt h1 h2 hu0 hu1 hm0 hm1
          go_wp2_with fail
          refine (put_tab W.heap.size g (vT true G T) wr HI.out (vT_wf true HUG.out HTZ.out.1) (16448 + m) (by have := HMM.out; omega) (by have := HMM.out; omega) (rd l1 i) HU1.out).mono ?_
          rintro e w6 ⟨rfl, hi, ht⟩
          rw [vT_tab, show 16448 + m - 16448 = m by omega] at hi
          have HI6 := Aside0.mk hi
          have HT6 := Aside0.mk (show At w6 g2 28 (u8s T).toArray from (ht.kept g2 HT.out.lt (fun e => HNE.out.1 e.symm)).trans HT.out)
          have HB6 := Aside0.mk (HB.out.trans ht.below)
          clear hi ht hx hx1
          rw [if_pos rfl] at HI6
          have hx1 := HX1.out w6 HB6.out
          have a63 := and63 (rd l1 i) HU1.out.1 HU1.out.2
          have qm0 := eq_true HMM.out.1
          have qm1 := eq_true HMM.out.2
          have ct := HT6.out.at64 HTZ.out.1.1 m HMM.out.1 HMM.out.2
          have ft := HT6.out.frozen m.toNat
          have HI7 := Aside0.mk (show Is W.heap.size (w6.setCell ⟨g2, m.toNat, none⟩ (.int .u8 (rd l1 i % 64))) g _ from ⟨HI6.out.at_.far (p := ⟨g2, m.toNat, none⟩) HNE.out.1 _, HI6.out.base, HI6.out.lt, HI6.out.ln, HI6.out.lr⟩)
          have HB7 := Aside0.mk (HB6.out.setCell (p := ⟨g2, m.toNat, none⟩) HNE.out.2 (.int .u8 (rd l1 i % 64)))
          have HT7 := Aside0.mk (HT6.out.set64 m.toNat (rd l1 i % 64))
          have HTP := Aside0.mk (tabP_set HTZ.out.1 m.toNat (rd l1 i))
          clear HI6 HB6 HT6
          have HO := Aside0.mk (out_calls W.heap.size g _ _ HI7.out (vT_wf true HUG.out HTP.out) (HM.out.below HB7.out HGM.out))
          rw [vT_out true G _ (.inl rfl)] at HO
          go_wp2_with (go_at_call 12; refine HO.out.mono ?_; rintro e w7 ⟨rfl, n7, rfl⟩)
          go_roundg (gk - 1)
          case measure => have := HK.out; omega
          case rel =>
            have := HK.out
            exact ⟨i + 1, _, by first | rfl | (congr 1), ⟨HI7.out.drewN n7, HTP.out, Or.inl (by simp), by omega, by omega⟩, ⟨HT7.out.drewN n7⟩, ⟨pw_below_drewN HB7.out n7⟩⟩
        · by_cases h1 : i < l1.length
          case' pos =>
            have k1 : decide (i < (l1.length : Int)) = true := decide_eq_true h1
            have k2 : decide (i < 100) = false := decide_eq_false (by omega)
            clear hin h1 hi0 hlt
            go_wp2
          case' neg =>
            have k1 : decide (i < (l1.length : Int)) = false := decide_eq_false h1
            clear hin h1 hi0 hlt
            go_wp2
          all_goals
            go_roundg (gk - 1)
            case measure => have := HK.out; omega
            case rel =>
              have := HK.out
              exact ⟨i + 1, T, by first | rfl | (congr 1), ⟨HI.out, HTZ.out.1, HTZ.out.2, by omega, by omega⟩, HT, HB⟩
      · have d1 : decide (i < (l0.length : Int)) = false := decide_eq_false hlt
        have HTZ := Aside0.mk (And.intro hT hz)
        have HI := Aside0.mk hi
        have hsz : (Tryd.prog.info? 28).map (·.size) = some (u8s T).toArray.size := by rw [List.size_toArray, u8s_len, hT.1]; kernel_rfl
        have hcs : ∀ k : Int, 0 ≤ k → k < 64 → (u8s T).toArray[k.toNat]? = some (.int .u8 (rd T k)) := fun k h0 h1 => by rw [List.getElem?_toArray, u8s_at _ _ (by have := hT.1; omega), Int.toNat_of_nonneg h0]
        have HS := Aside0.mk hsz
        have HC := Aside0.mk hcs
        clear HR hi hT hz hk hi0 hlt hsz hcs
        generalize (u8s T).toArray = cs at *
        go_wp2_with (refine wpList_load_row rfl 28 _ rfl g2 rfl 28 _ (0, 0) _ HT.out Tryd.underlying28 rfl HS.out ?_)
        have HB7 := HB
        have HI7 := HI
        have HT7 := HT
        clear HB HI HT
        go_loopg [66] 64 (fun kq v66 w' => ∃ k : Int, v66 = .int .i64 k ∧ Aside0 (Is W.heap.size w' g (vT true G T) ∧ k + kq = 64 ∧ 0 ≤ k) ∧ Aside0 (At w' g2 28 cs) ∧ Aside0 (Below W.heap.size W w'))
        case atStart => exact ⟨0, rfl, ⟨HI7.out, by decide, by decide⟩, HT7, HB7⟩
        case round =>
          obtain ⟨k, rfl, HR, HT, HB⟩ := hrel
          obtain ⟨hi, hk, hk0⟩ := HR.out
          by_cases hlt : k < 64
          · have d2 : decide (k < 64) = true := decide_eq_true hlt
            have hc := HC.out k hk0 hlt
            have HK := Aside0.mk (show k + gk = 64 ∧ k < 64 ∧ 0 ≤ k from ⟨hk, hlt, hk0⟩)
            have HI := Aside0.mk hi
            have q0 := eq_true hk0
            have q1 := eq_true hlt
            have e1 : wrap64 (k + 1) = k + 1 := by unfold wrap64; omega
            have e2 : IntKind.u16.wrap k = k := by rw [IntKind.wrap_u16]; omega
            have e3 : IntKind.u16.wrap (16448 + k) = 16448 + k := by rw [IntKind.wrap_u16]; omega
            have hgv : getV (vT true G T) (16448 + k) = (rd T k + 64, true) := by
              unfold getV
              rw [if_pos ⟨by omega, by omega⟩, show 16448 + k - 16448 = k by omega]
              rfl
            have ho := or64 (rd T k) (HTZ.out.1.2 k).1 (HTZ.out.1.2 k).2
            have HG2 := Aside0.mk (get_calls W.heap.size g (vT true G T) wr HI.out (vT_wf true HUG.out HTZ.out.1) (16448 + k) (by omega) (by omega))
            rw [hgv] at HG2
            have hix := index64 cs k _ hk0 hlt hc wr
            clear HR hi hk hk0 hlt hgv
            go_wp2_with (go_at_call 13; refine HG2.out.mono ?_; rintro e w7 ⟨rfl, rfl⟩)
            go_roundg (gk - 1)
            case measure => have := HK.out; omega
            case rel =>
              have := HK.out
              exact ⟨k + 1, by first | rfl | (congr 1), ⟨HI.out, by omega, by omega⟩, HT, HB⟩
          · have d2 : decide (k < 64) = false := decide_eq_false hlt
            have HI := Aside0.mk hi
            clear HR hi hk hk0 hlt
            go_wp2_with fail
            refine (put_mas W.heap.size g (vT true G T) wr HI.out (vT_wf true HUG.out HTZ.out.1) (HM.out.below HB.out HGM.out) 0 ⟨by decide, by decide⟩).mono ?_
            rintro e w8 ⟨rfl, hi, ht⟩
            have HI8 := Aside0.mk hi
            have HT8 := Aside0.mk (show At w8 g2 28 cs from (ht.kept g2 HT.out.lt (fun e => HNE.out.1 e.symm)).trans HT.out)
            have HB8 := Aside0.mk (HB.out.trans ht.below)
            have cw : w8.drew.cell? ⟨g2, 0, none⟩ = some (.int .u8 (rd T 0)) := by rw [HT8.out.drew.cell]; exact HC.out 0 (by decide) (by decide)
            have HO := Aside0.mk (out_calls W.heap.size g _ w8.drew HI8.out.drew ((vT_wf true HUG.out HTZ.out.1).mas 0 ⟨by decide, by decide⟩) (HM.out.below HB8.out.drew HGM.out))
            rw [vT_end true G HG.out.1, HG.out.2.2] at HO
            have a63 := and63 gain HGN.out.1 HGN.out.2
            clear hi ht HB HI HT HI7 HB7 HT7
            go_wp2_with fail
            refine start_ (n := 13) (S := fun w' => w'.cell? ⟨g2, 0, none⟩ = some (.int .u8 (rd T 0))) (ds := []) #[false, false, false, false, false, false, false, false, false, false, false, false, false] (by kernel_rfl) rfl rfl (cw) (fun hHeld => ?_)
            refine pure_ (i := 0) (N := some 89) (v := ?_) (a' := ?_) #[true, false, false, false, false, false, false, false, false, false, false, false, false] rfl rfl (by kernel_rfl) (fun _ _ _ h => h) (Or.inl ⟨by rfl, ?_⟩) ?_ ?_
            rotate_left
            · intro w'
              go_simp
              with_reducible rfl
            rotate_left
            · simp only [Act.put, List.setIfInBounds_toArray, List.set_cons_zero, List.set_cons_succ, i64_w, i32_w]
              rfl
            refine pure_ (i := 2) (N := some 91) (v := ?_) (a' := ?_) #[true, false, true, false, false, false, false, false, false, false, false, false, false] rfl rfl (by kernel_rfl) (fun _ _ _ h => h) (Or.inl ⟨by rfl, ?_⟩) ?_ ?_
            rotate_left
            · intro w'
              go_simp
              with_reducible rfl
            rotate_left
            · simp only [Act.put, List.setIfInBounds_toArray, List.set_cons_zero, List.set_cons_succ, i64_w, i32_w]
              rfl
            refine pure_ (i := 5) (N := some 94) (v := ?_) (a' := ?_) #[true, false, true, false, false, true, false, false, false, false, false, false, false] rfl rfl (by kernel_rfl) (fun _ _ _ h => h) (Or.inl ⟨by rfl, ?_⟩) ?_ ?_
            rotate_left
            · intro w'
              go_simp
              with_reducible rfl
            rotate_left
            · simp only [Act.put, List.setIfInBounds_toArray, List.set_cons_zero, List.set_cons_succ, i64_w, i32_w]
              rfl
            refine pure_ (i := 6) (N := some 95) (v := ?_) (a' := ?_) #[true, false, true, false, false, true, true, false, false, false, false, false, false] rfl rfl (by kernel_rfl) (fun _ _ _ h => h) (Or.inl ⟨by rfl, ?_⟩) ?_ ?_
            rotate_left
            · intro w'
              go_simp
              with_reducible rfl
            rotate_left
            · simp only [Act.put, List.setIfInBounds_toArray, List.set_cons_zero, List.set_cons_succ, i64_w, i32_w]
              rfl
            refine pure_ (i := 7) (N := some 96) (v := ?_) (a' := ?_) #[true, false, true, false, false, true, true, true, false, false, false, false, false] rfl rfl (by kernel_rfl) (fun _ _ _ h => h) (Or.inl ⟨by rfl, ?_⟩) ?_ ?_
            rotate_left
            · intro w'
              go_simp
              with_reducible rfl
            rotate_left
            · simp only [Act.put, List.setIfInBounds_toArray, List.set_cons_zero, List.set_cons_succ, i64_w, i32_w]
              rfl
            refine pure_ (i := 8) (N := some 97) (v := ?_) (a' := ?_) #[true, false, true, false, false, true, true, true, true, false, false, false, false] rfl rfl (by kernel_rfl) (fun _ _ _ h => h) (Or.inl ⟨by rfl, ?_⟩) ?_ ?_
            rotate_left
            · intro w'
              go_simp
              with_reducible rfl
            rotate_left
            · simp only [Act.put, List.setIfInBounds_toArray, List.set_cons_zero, List.set_cons_succ, i64_w, i32_w]
              rfl
            refine take_ (i := 3) (N := some 92) (v := ?_) (a' := ?_) #[true, false, true, true, false, true, true, true, true, false, false, false, false] rfl rfl (by kernel_rfl) (fun _ _ _ h => h) (Or.inl ⟨by rfl, ?_⟩) hHeld ?_ ?_
            rotate_left
            · intro w' s0
              go_simp
              with_reducible rfl
            rotate_left
            · simp only [Act.put, List.setIfInBounds_toArray, List.set_cons_zero, List.set_cons_succ, i64_w, i32_w]
              rfl
            refine pure_ (i := 4) (N := some 93) (v := ?_) (a' := ?_) #[true, false, true, true, true, true, true, true, true, false, false, false, false] rfl rfl (by kernel_rfl) (fun _ _ _ h => h) (Or.inl ⟨by rfl, ?_⟩) ?_ ?_
            rotate_left
            · intro w'
              go_simp
              with_reducible rfl
            rotate_left
            · simp only [Act.put, List.setIfInBounds_toArray, List.set_cons_zero, List.set_cons_succ, i64_w, i32_w]
              rfl
            refine pure_ (i := 9) (N := some 98) (v := ?_) (a' := ?_) #[true, false, true, true, true, true, true, true, true, true, false, false, false] rfl rfl (by kernel_rfl) (fun _ _ _ h => h) (Or.inl ⟨by rfl, ?_⟩) ?_ ?_
            rotate_left
            · intro w'
              go_simp
              with_reducible rfl
            rotate_left
            · simp only [Act.put, List.setIfInBounds_toArray, List.set_cons_zero, List.set_cons_succ, i64_w, i32_w]
              rfl
            refine pure_ (i := 10) (N := some 99) (v := ?_) (a' := ?_) #[true, false, true, true, true, true, true, true, true, true, true, false, false] rfl rfl (by kernel_rfl) (fun _ _ _ h => h) (Or.inl ⟨by rfl, ?_⟩) ?_ ?_
            rotate_left
            · intro w'
              go_simp
              with_reducible rfl
            rotate_left
            · simp only [Act.put, List.setIfInBounds_toArray, List.set_cons_zero, List.set_cons_succ, i64_w, i32_w]
              rfl
            refine one_ (i := 1) (N := some 90) #[true, true, true, true, true, true, true, true, true, true, true, false, false] rfl rfl (by kernel_rfl) (by decide) (fun K hK => ?_)
            refine goes_ Tryd.func12 (by kernel_rfl) rfl #[.pointer (some ⟨g, 0, none⟩)] (by rfl) rfl rfl (by simp only [List.map_toArray, List.map_cons, List.map_nil]; rfl) ?_
            with_reducible refine (HO.out).mono ?_
            rintro e w9 ⟨rfl, n9, rfl⟩
            refine ⟨_, rfl, ?_⟩
            refine hK.out _ _ (cw) (fun hHeld => ?_)
            clear hK K
            refine norm_ (a' := ?_) ?_ ?_
            rotate_left
            · show Act.put _ (some 90) _ = _
              simp only [Act.put, List.setIfInBounds_toArray, List.set_cons_zero, List.set_cons_succ, i64_w, i32_w]
              rfl
            refine pure_ (i := 11) (N := some 100) (v := ?_) (a' := ?_) #[true, true, true, true, true, true, true, true, true, true, true, true, false] rfl rfl (by kernel_rfl) (fun _ _ _ h => h) (Or.inl ⟨by rfl, ?_⟩) ?_ ?_
            rotate_left
            · intro w'
              go_simp
              with_reducible rfl
            rotate_left
            · simp only [Act.put, List.setIfInBounds_toArray, List.set_cons_zero, List.set_cons_succ, i64_w, i32_w]
              rfl
            refine pure_ (i := 12) (N := some 8) (v := ?_) (a' := ?_) #[true, true, true, true, true, true, true, true, true, true, true, true, true] rfl rfl (by kernel_rfl) (fun _ _ _ h => h) (Or.inl ⟨by rfl, ?_⟩) ?_ ?_
            rotate_left
            · intro w'
              go_simp
              with_reducible rfl
            rotate_left
            · simp only [Act.put, List.setIfInBounds_toArray, List.set_cons_zero, List.set_cons_succ, i64_w, i32_w]
              rfl
            refine done_ (by kernel_rfl) ?_
            go_wp2_with fail
            all_goals go_ret
            all_goals refine ⟨?_, pw_below_drewN HB8.out _⟩
            all_goals have hT0 := HTZ.out.1.2 0
            all_goals have w0 : wrap64 (gain % 64) = gain % 64 := (by unfold wrap64; omega)
            all_goals rw [w0] at h
            · have e9 : (rd T 0 * min (gain % 64) 32 * 30 == wrap64 (wrap64 (wrap64 (rd T 0) * 32) * 30)) = true := by
                rw [vol_eq _ _ hT0.1 hT0.2 (by decide) (by decide), show min (gain % 64) 32 = 32 by omega, beq_self_eq_true]
              exact congrArg (fun b => Ending.returned (.bool b)) e9
            · have e9 : (rd T 0 * min (gain % 64) 32 * 30 == wrap64 (wrap64 (wrap64 (rd T 0) * wrap64 (gain % 64)) * 30)) = true := by
                rw [w0, vol_eq _ _ hT0.1 hT0.2 (by omega) h, show min (gain % 64) 32 = gain % 64 by omega, beq_self_eq_true]
              exact congrArg (fun b => Ending.returned (.bool b)) e9
end Go.Proofs.YtkmdhpmgbcdlmaaDoor.Wave
