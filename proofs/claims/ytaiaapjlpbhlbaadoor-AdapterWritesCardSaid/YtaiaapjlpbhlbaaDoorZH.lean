import Derived.Test.YtaiaapjlpbhlbaaDoorZWMore
import Derived.Test.YtaiaapjlpbhlbaaDoorZWNEv
import Derived.Laws.CopyOwn
import Derived.Laws.CopyRow
import Derived.Lib.SlBytesConst
import Derived.ArgAppend
namespace Go.Proofs.YtaiaapjlpbhlbaaDoor.H
open Go.RowKit Go.Proofs.YtaiaapjlpbhlbaaDoorW.PrintWords Go.Proofs.YtaiaapjlpbhlbaaDoorW.PrintLast Go.Proofs.YtaiaapjlpbhlbaaDoorW.PrintMore
set_option linter.unusedVariables false
set_option linter.unusedSimpArgs false
def Row (t : TypeId) (W : World) (g : Nat) (xs : List Int) : Prop := W.heap[g]? = some (.cells (xs.map (Value.int .u8)).toArray t (0, 0))
section
variable {W W1 : World} {g : Nat} {t : TypeId} {xs : List Int}
theorem Row.cell (h : Row t W g xs) (i : Nat) (hi : i < xs.length) : W.cell? ⟨g, i, none⟩ = some (.int .u8 (xs.getD i 0)) := by
 unfold Row at h
 simp [World.cell?, h, List.getElem?_eq_getElem hi, List.getD_eq_getElem?_getD]
theorem Row.frozen (h : Row t W g xs) (i : Nat) : W.frozen? ⟨g, i, none⟩ = false := by
 unfold Row at h
 simp [World.frozen?, h]
theorem Row.set_ (h : Row t W g xs) (i : Nat) (b : Int) : Row t (W.setCell ⟨g, i, none⟩ (.int .u8 b)) g (xs.set i b) := by
 unfold Row at h ⊢
 simp [World.setCell, Array.getElem?_modify, h, List.map_set]
theorem Row.lt (h : Row t W g xs) : g < W.heap.size := by
 rcases Nat.lt_or_ge g W.heap.size with hlt | hge
 ·exact hlt
 ·unfold Row at h; rw [Array.getElem?_eq_none hge] at h; cases h
theorem Row.below (h : Row t W g xs) (hb : Below W.heap.size W W1) : Row t W1 g xs := (hb.block g h.lt).trans h
theorem Row.far (h : Row t W g xs) {p : Addr} (hp : g ≠ p.block) (u : Value) : Row t (W.setCell p u) g xs := (Below.heap_setCell W p u g hp).trans h
theorem Row.drewN (h : Row t W g xs) (n : Nat) : Row t (W.drewN n) g xs := h
theorem Row.drew (h : Row t W g xs) : Row t W.drew g xs := h
theorem Row.own (h : Row t W g xs) (base : Nat) (hb : base ≤ g) (hl : xs.length ≤ 9223372036854775807) : W.ownsRow base t 1 (.slice (some ⟨g, 0, none⟩) xs.length xs.length) xs.length (encs (Value.int .u8) xs) := by
 refine ⟨by simp [encs], .inr ⟨g, xs.length, _, rfl, hb, h, Nat.le_refl _, by unfold maxLen; omega, by simp, ?_⟩⟩
 simp only [encs, Nat.mul_one]
 exact List.take_of_length_le (by simp)
theorem Row.R (h : Row t W g xs) (base : Nat) (hb : base ≤ g) (hl : xs.length ≤ 9223372036854775807) : Kd.R (Kd.int .u8) t W base (fun k => k = g) (.slice (some ⟨g, 0, none⟩) xs.length xs.length) xs :=
 Kd.R_of_own (enc := Value.int .u8) (h.own base hb hl) (fun k hk => by simp [Value.ownBlock] at hk; exact hk.symm)
theorem Row.V (h : Row t W g xs) (base : Nat) (hl : xs.length ≤ 9223372036854775807) : Kd.V (Kd.int .u8) t W base (fun k => k = g) (.slice (some ⟨g, 0, none⟩) xs.length xs.length) xs :=
 Kd.R_V (h.R 0 (Nat.zero_le _) hl)
theorem Row.alloc_new (W : World) (t : TypeId) (xs : List Int) (cs : Array Value) (hc : cs = (xs.map (Value.int .u8)).toArray) : Row t (W.alloc (.cells cs t)) W.heap.size xs := by
 unfold Row; rw [← hc]; exact heap_alloc_new W _
end
def spl (xs : List Int) (off : Nat) (ys : List Int) : List Int := xs.take off ++ (ys ++ xs.drop (off + ys.length))
theorem spl_length (xs ys : List Int) (off : Nat) (h : off + ys.length ≤ xs.length) : (spl xs off ys).length = xs.length := by simp [spl]; omega
theorem run_copy_str {P : Program} (w : World) (dT sT ty elem : TypeId) (g o dLen dCap : Nat) (s : ByteArray) (cur : Array Value) (t : TypeId)
  (hu : P.underlying dT = some (.slice elem)) (hs : (P.info? elem).map (·.size) = some 1) (hg : w.heap[g]? = some (.cells cur t (0, 0))) (hfit : o + Nat.min s.size dLen ≤ cur.size) :
  (Builtin.copy_ #[dT, sT] ty #[.slice (some ⟨g, o, none⟩) dLen dCap, .string s]).run P w =
   .ok (goInt (Nat.min s.size dLen)) (w.setRow g (cur.toList.take o ++ ((bytesOf s).map (Value.int .u8)).take (Nat.min s.size dLen) ++ cur.toList.drop (o + Nat.min s.size dLen)).toArray) := by
 have hl0 : ((bytesOf s).map (Value.int .u8)).length = s.size := by rw [List.length_map, bytesOf_length]
 have hlen : (((bytesOf s).map (Value.int .u8)).take (Nat.min s.size dLen)).length = Nat.min s.size dLen := by rw [List.length_take, hl0]; exact Nat.min_eq_left (Nat.min_le_left s.size dLen)
 have hst := run_storeCells_at P g o t (((bytesOf s).map (Value.int .u8)).take (Nat.min s.size dLen)) 0 cur w hg (by rw [hlen]; simpa using hfit) (fun v hv => by
  obtain ⟨x, _, rfl⟩ := List.mem_map.1 (List.mem_of_mem_take hv)
  rfl)
 rw [hlen] at hst
 simp only [Nat.add_zero] at hst
 generalize hm : Nat.min s.size dLen = m at *
 have htk : List.map (fun b : UInt8 => Value.int IntKind.u8 (b.toNat : Int)) s.data.toList = (bytesOf s).map (Value.int .u8) := by unfold bytesOf; rw [List.map_map]; rfl
 cases hq : P.info? elem with
 | none => simp [hq] at hs
 | some i =>
  simp [Builtin.copy_, run_underlying hu, Builtin.lenOf, Builtin.firstCells, sizeOf, typeInfo, hq, hm]
  rw [htk, hst]
  simp [Result.andThen]
theorem copyStr {P : Program} {w : World} {ops : Array Oper} {rest : List Oper} {o : Oper} {a : Act} {Q : Exit → Act → World → Prop} (hgd : o.guard = none) (d s : Operand) (dT sT : TypeId)
  (ho : o.op = .call { callee := .builtin .copy, args := #[d, s], argTypes := #[dT, sT] }) (elem : TypeId) (hu : P.underlying dT = some (.slice elem)) (hsz : (P.info? elem).map (·.size) = some 1)
  (g off dLen dCap : Nat) (str : ByteArray) (hd : a.eval d = .slice (some ⟨g, off, none⟩) dLen dCap) (hs : a.eval s = .string str)
  (t : TypeId) (xs : List Int) (hg : Row t w g xs) (hfit : off + dLen ≤ xs.length) (B : Nat) (w0 : World) (hb : Below B w0 w) (hBg : B ≤ g)
  (h : ∀ w', Row t w' g (spl xs off ((bytesOf str).take dLen)) → Below B w0 w' → (∀ k, k ≠ g → w'.heap[k]? = w.heap[k]?) → w'.heap.size = w.heap.size → wpList P ops Q rest (a.put o.dst (goInt (Nat.min str.size dLen))) w') :
  wpList P ops Q (o :: rest) a w := by
 have hm : ((bytesOf str).take dLen).length = Nat.min str.size dLen := by rw [List.length_take, bytesOf_length]; exact Nat.min_comm _ _
 have hle : Nat.min str.size dLen ≤ dLen := Nat.min_le_right _ _
 refine wpList_plain hgd fun K hK => ?_
 have hrun := run_copy_str (P := P) w dT sT o.type elem g off dLen dCap str _ t hu hsz hg (by simp; omega)
 unfold Oper.wp
 simp [execOp, ho, resolve, invoke, builtin, hd, hs, hrun, Result.andThen]
 refine hK _ _ ?_
 refine h _ ?_ ?_ ?_ ?_
 ·unfold Row
  rw [setRow_heap w g _ _ t _ hg]
  congr 2
  unfold spl
  rw [hm]
  simp only [List.map_append, List.map_take, List.map_drop]
  congr 3
  have e : List.take (Nat.min str.size dLen) (List.map (Value.int .u8) (bytesOf str)) = List.take dLen (List.map (Value.int .u8) (bytesOf str)) := by
   have hl : (List.map (Value.int .u8) (bytesOf str)).length = str.size := by rw [List.length_map, bytesOf_length]
   rcases Nat.le_total str.size dLen with hx | hx
   ·rw [show Nat.min str.size dLen = str.size from Nat.min_eq_left hx, List.take_of_length_le (by omega), List.take_of_length_le (by omega)]
   ·rw [show Nat.min str.size dLen = dLen from Nat.min_eq_right hx]
  exact e
 ·exact below_setRow hb hBg _
 ·intro k hk
  exact setRow_other w g k _ hk
 ·simp [World.setRow]
theorem makeRow {P : Program} {W : World} {ops : Array Oper} {rest : List Oper} {o : Oper} {a : Act} {Q : Exit → Act → World → Prop} (hgd : o.guard = none) (t e : TypeId) (x y : Operand) (ho : o.op = .makeSlice t x y) (m : Nat) (hx : a.eval x = .int .i64 (m : Int)) (hy : a.eval y = .int .i64 (m : Int))
  (ht : P.underlying t = some (.slice e)) (hinfo : (P.info? e).map (fun i => (i.zero, i.size, i.bytes)) = some (some (.int .u8 0), 1, 1)) (hm : m ≤ 281474976710656)
  (h : ∀ w', Row e w' W.heap.size (List.replicate m 0) → Below W.heap.size W w' → w'.heap.size = W.heap.size + 1 → wpList P ops Q rest (a.put o.dst (.slice (some ⟨W.heap.size, 0, none⟩) m m)) w') : wpList P ops Q (o :: rest) a W := by
 refine wpList_plain hgd fun K hK => ?_
 have hrun := print_make (P := P) t e .u8 1 ht hinfo (by decide) m (by omega) W
 unfold Oper.wp
 simp [execOp, ho, hx, hy, hrun, Result.andThen]
 refine hK _ _ (h _ (Row.alloc_new W e (List.replicate m 0) _ ?_) (below_alloc (Below.refl _ _) _) (by simp))
 apply Array.ext'
 apply List.ext_getElem
 ·simp [madeCells]
 ·intro i h1 h2
  simp [madeCells, Nat.mod_one]
theorem litN {α : Type} (d : Kd α) {W : World} (base e : Nat) {xs : List α} {inner : List Value} {ok okp : Nat → Prop} (hrep : Reps (Kd.FK d W okp) d.sz xs inner) (hok : ∀ k, okp k → ok k) (hfresh : ok W.heap.size) (hbase : base ≤ W.heap.size) (hm : xs.length ≤ 9223372036854775807) :
  Kd.N d e (W.alloc (.cells inner.toArray e)) base ok (.slice (some ⟨W.heap.size, 0, none⟩) xs.length xs.length) xs := by
 have hsz : inner.length = xs.length * d.sz := hrep.1
 have own := World.ownsRow_lit (base := base) (e := e) (size := d.sz) W inner.toArray xs.length hbase (by simpa [maxLen] using hm) (by simpa using hsz)
 refine Kd.N_made (W := W) (rows := Kd.chunks d.sz xs.length inner) (okp := okp) ⟨fun k hk => by simp [Value.ownBlock] at hk; exact hk.symm, inner, ?_, Kd.reps_raw hrep (fun y c hk => ⟨d.K_len (Kd.FK_now hk), d.K_one (Kd.FK_now hk)⟩)⟩ (grown_of_below (below_alloc (Below.refl _ _) _) none) ⟨W.heap.size, rfl, Nat.le_refl _⟩ (Kd.chunks_length _ _ _) (fun j y c hy hc => by rw [Kd.chunks_get hc]; exact hrep.2 j y hy) hok hfresh
 rw [Kd.chunks_length]
 exact own
theorem R_makecap {P : Program} {w0 W : World} {ops : Array Oper} {rest : List Oper} {o : Oper} {a : Act} {Q : Exit → Act → World → Prop} (base e : Nat) (hgd : o.guard = none) {N : Tmp} (_hd : o.dst = some N) (t : TypeId) (x y : Operand) (ho : o.op = .makeSlice t x y) (kx ky : IntKind) (n m : Int) (hx : a.eval x = .int kx n) (hy : a.eval y = .int ky m)
  (ht : P.underlying t = some (.slice e)) (hinfo : (P.info? e).map (fun i => (i.zero, i.size, i.bytes)) = some (some (.int .u8 0), 1, 1)) {ok okp : Nat → Prop} (hok : ∀ k, okp k → ok k) (hfresh : ok W.heap.size) (h0 : 0 ≤ n) (hnm : n ≤ m) (hl : m.toNat * 1 ≤ 281474976710656) (HB : Below base w0 W) (hbase : base ≤ W.heap.size)
  (h : ∀ v1 w1, Kd.R (Kd.int .u8) e w1 base ok v1 (List.replicate n.toNat 0) → Below base w0 w1 → W.grownBy w1 none → (∃ b, v1.ownBlock = some b ∧ W.heap.size ≤ b) → wpList P ops Q rest (a.put o.dst v1) w1) : wpList P ops Q (o :: rest) a W := by
 obtain ⟨i0, hi, hzz⟩ := Option.map_eq_some_iff.1 hinfo
 simp only [Prod.mk.injEq] at hzz
 obtain ⟨hz0, hz1, hz2⟩ := hzz
 have hr := run_make (P := P) W t e i0 (.int .u8 0) ht hi hz0 kx ky n m h0 hnm (by rw [hz2]; omega) (by omega)
 rw [hz1, Nat.mul_one] at hr
 refine wpList_plain hgd fun K hK => ?_
 unfold Oper.wp
 simp [execOp, ho, hx, hy, hr, Result.andThen]
 have own : (W.alloc (.cells (madeCells (Value.cells (.int .u8 0)) m.toNat) e)).ownsRow base e 1 (.slice (some ⟨W.heap.size, 0, none⟩) n.toNat m.toNat) (List.replicate n.toNat (0 : Int)).length (encs (Value.int .u8) (List.replicate n.toNat 0)) := by
  refine ⟨by simp [encs], .inr ⟨W.heap.size, m.toNat, _, by rw [List.length_replicate], hbase, heap_alloc_new W _, by rw [List.length_replicate]; omega, by unfold maxLen; omega, by rw [size_madeCells]; omega, ?_⟩⟩
  apply List.ext_getElem
  ·simp [encs, madeCells]; omega
  ·intro i h1 h2
   simp [encs, madeCells]
   rw [show (Value.int IntKind.u8 0).cells = #[Value.int IntKind.u8 0] from rfl]
   simp [Nat.mod_one]
 refine hK _ _ (h _ _ (Kd.R_of_own (enc := Value.int .u8) own (fun k hk => ?_)) (HB.alloc hbase _) (World.grownBy_alloc W _ none) ⟨W.heap.size, rfl, Nat.le_refl _⟩)
 have : W.heap.size = k := by simpa [Value.ownBlock] using hk
 subst this
 exact hfresh
end Go.Proofs.YtaiaapjlpbhlbaaDoor.H

