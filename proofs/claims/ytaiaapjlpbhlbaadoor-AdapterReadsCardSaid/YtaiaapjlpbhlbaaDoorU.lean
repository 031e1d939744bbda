/-
  PLAIN LEMMAS on numbers, bits and lists: no program in sight. By the prover of this repo.
-/
import Derived.Laws.BitsLemmas
import Derived.Lib.EndianBits
import Derived.Test.YtaiaapjlpbhlbaaDoorWMore
import Derived.Test.YtaiaapjlpbhlbaaDoorWNEv
namespace Crc

/-- one step of the 32-bit register, no bit coming in -/
def F (s : Nat) : Nat := (s / 2) ^^^ (3988292384 * (s % 2))
def Fn : Nat → Nat → Nat
  | 0, s => s
  | k + 1, s => Fn k (F s)
/-- a bit fed -/
def feed (s : Nat) : List Nat → Nat
  | [] => s
  | x :: xs => feed (F (s ^^^ x)) xs
def bitsOf : Nat → Nat → List Nat
  | 0, _ => []
  | k + 1, n => (n % 2) :: bitsOf k (n / 2)

theorem xor_mod2 (a b : Nat) : (a ^^^ b) % 2 = (a + b) % 2 := by
  have h := Nat.testBit_xor a b 0
  simp only [Nat.testBit_zero] at h
  have h1 : (a ^^^ b) % 2 = 0 ∨ (a ^^^ b) % 2 = 1 := by omega
  have h2 : a % 2 = 0 ∨ a % 2 = 1 := by omega
  have h3 : b % 2 = 0 ∨ b % 2 = 1 := by omega
  rcases h1 with h1 | h1 <;> rcases h2 with h2 | h2 <;> rcases h3 with h3 | h3 <;> simp [h1, h2, h3] at h <;> omega

theorem xor_div2 (a b : Nat) : (a ^^^ b) / 2 = (a / 2) ^^^ (b / 2) := by
  apply Nat.eq_of_testBit_eq
  intro i
  simp [Nat.testBit_div_two, Nat.testBit_xor]

theorem xor_rc {a b c : Nat} (h : a ^^^ c = b ^^^ c) : a = b := by
  have := congrArg (· ^^^ c) h
  simpa [Nat.xor_assoc] using this
theorem xor_lc {a b c : Nat} (h : c ^^^ a = c ^^^ b) : a = b := by
  rw [Nat.xor_comm c a, Nat.xor_comm c b] at h
  exact xor_rc h

theorem F_xor (s t : Nat) : F (s ^^^ t) = F (s ^^^ (t % 2)) ^^^ (t / 2) := by
  unfold F
  rw [xor_div2, xor_div2, xor_mod2, xor_mod2]
  have e1 : (t % 2) / 2 = 0 := by omega
  have e2 : (s + t % 2) % 2 = (s + t) % 2 := by omega
  rw [e1, e2, Nat.xor_zero]
  ac_rfl

/-- feeding k bits of t is running k steps from s xor t, but for what is left of t -/
theorem Fn_feed (k : Nat) : ∀ s t, Fn k (s ^^^ t) = feed s (bitsOf k t) ^^^ (t / 2 ^ k) := by
  induction k with
  | zero => intro s t; simp [Fn, feed, bitsOf]
  | succ k ih =>
    intro s t
    simp only [Fn, feed, bitsOf]
    rw [F_xor, ih, Nat.div_div_eq_div_mul, Nat.pow_succ, Nat.mul_comm]

theorem Fn_feed_all (k s t : Nat) (h : t < 2 ^ k) : Fn k (s ^^^ t) = feed s (bitsOf k t) := by
  rw [Fn_feed, Nat.div_eq_of_lt h, Nat.xor_zero]

theorem F_lt {s : Nat} (h : s < 2 ^ 32) : F s < 2 ^ 32 := by
  unfold F
  apply Nat.xor_lt_two_pow
  · omega
  · have : s % 2 < 2 := Nat.mod_lt _ (by decide)
    have h2 : s % 2 = 0 ∨ s % 2 = 1 := by omega
    rcases h2 with e | e <;> rw [e] <;> decide

theorem F_inj {s t : Nat} (hs : s < 2 ^ 32) (ht : t < 2 ^ 32) (h : F s = F t) : s = t := by
  have key : ∀ u, u < 2 ^ 32 → (F u).testBit 31 = decide (u % 2 = 1) := by
    intro u hu
    unfold F
    rw [Nat.testBit_xor]
    have h1 : (u / 2).testBit 31 = false := Nat.testBit_lt_two_pow (by omega)
    rw [h1]
    have h2 : u % 2 = 0 ∨ u % 2 = 1 := by omega
    rcases h2 with e | e <;> rw [e] <;> decide
  have hp : s % 2 = t % 2 := by
    have a := key s hs
    have b := key t ht
    rw [h] at a
    rw [a] at b
    have h2 : s % 2 = 0 ∨ s % 2 = 1 := by omega
    have h3 : t % 2 = 0 ∨ t % 2 = 1 := by omega
    rcases h2 with e | e <;> rcases h3 with e' | e' <;> simp [e, e'] at b <;> omega
  have hq : s / 2 = t / 2 := by
    unfold F at h
    rw [hp] at h
    exact xor_rc h
  omega

theorem Fn_lt (k : Nat) : ∀ s, s < 2 ^ 32 → Fn k s < 2 ^ 32 := by
  induction k with
  | zero => intro s h; exact h
  | succ k ih => intro s h; exact ih _ (F_lt h)

theorem Fn_inj (k : Nat) : ∀ s t, s < 2 ^ 32 → t < 2 ^ 32 → Fn k s = Fn k t → s = t := by
  induction k with
  | zero => intro s t _ _ h; exact h
  | succ k ih => intro s t hs ht h; exact F_inj hs ht (ih _ _ (F_lt hs) (F_lt ht) h)

theorem feed_lt (l : List Nat) : ∀ s, s < 2 ^ 32 → (∀ x ∈ l, x < 2) → feed s l < 2 ^ 32 := by
  induction l with
  | nil => intro s h _; exact h
  | cons x l ih =>
    intro s h hx
    refine ih _ (F_lt ?_) (fun y hy => hx y (List.mem_cons_of_mem _ hy))
    exact Nat.xor_lt_two_pow h (Nat.lt_trans (hx x List.mem_cons_self) (by decide))

theorem feed_append (l m : List Nat) : ∀ s, feed s (l ++ m) = feed (feed s l) m := by
  induction l with
  | nil => intro s; rfl
  | cons x l ih => intro s; exact ih _

/-- the same bits keep two registers apart -/
theorem feed_inj (l : List Nat) : ∀ s t, s < 2 ^ 32 → t < 2 ^ 32 → (∀ x ∈ l, x < 2) → feed s l = feed t l → s = t := by
  induction l with
  | nil => intro s t _ _ _ h; exact h
  | cons x l ih =>
    intro s t hs ht hx h
    have hx0 : x < 2 ^ 32 := Nat.lt_trans (hx x List.mem_cons_self) (by decide)
    have := ih _ _ (F_lt (Nat.xor_lt_two_pow hs hx0)) (F_lt (Nat.xor_lt_two_pow ht hx0)) (fun y hy => hx y (List.mem_cons_of_mem _ hy)) h
    have := F_inj (Nat.xor_lt_two_pow hs hx0) (Nat.xor_lt_two_pow ht hx0) this
    exact xor_rc this

theorem bitsOf_lt (k : Nat) : ∀ n, ∀ x ∈ bitsOf k n, x < 2 := by
  induction k with
  | zero => intro n x h; cases h
  | succ k ih =>
    intro n x h
    rcases List.mem_cons.1 h with h | h
    · omega
    · exact ih _ _ h

/-- a burst: two words of at most 32 bits tell one register apart -/
theorem burst (k s t u : Nat) (hk : k ≤ 32) (hs : s < 2 ^ 32) (ht : t < 2 ^ k) (hu : u < 2 ^ k) (h : feed s (bitsOf k t) = feed s (bitsOf k u)) : t = u := by
  have hp : 2 ^ k ≤ 2 ^ 32 := Nat.pow_le_pow_right (by decide) hk
  rw [← Fn_feed_all k s t ht, ← Fn_feed_all k s u hu] at h
  have := Fn_inj k _ _ (Nat.xor_lt_two_pow hs (Nat.lt_of_lt_of_le ht hp)) (Nat.xor_lt_two_pow hs (Nat.lt_of_lt_of_le hu hp)) h
  exact xor_lc this

/-- one step of the 16-bit register; a bit comes in on top -/
def G (s x : Nat) : Nat := (s / 2 + 32768 * x) ^^^ (33800 * (s % 2))
def gfeed (s : Nat) : List Nat → Nat
  | [] => s
  | x :: xs => gfeed (G s x) xs

theorem top_xor (a x : Nat) (h : a < 32768) : a + 32768 * x = a ^^^ (32768 * x) := by
  have := Nat.two_pow_add_eq_or_of_lt (i := 15) (by simpa using h) x
  have e : a ||| 2 ^ 15 * x = a ^^^ (2 ^ 15 * x) := by
    apply Nat.eq_of_testBit_eq
    intro i
    rw [Nat.testBit_or, Nat.testBit_xor, Nat.testBit_two_pow_mul]
    by_cases hi : 15 ≤ i
    · have : a.testBit i = false := Nat.testBit_lt_two_pow (Nat.lt_of_lt_of_le h (Nat.pow_le_pow_right (by decide) hi : 2 ^ 15 ≤ 2 ^ i))
      simp [this]
    · simp [hi]
  rw [Nat.or_comm, ← this] at e
  have e' : (2 : Nat) ^ 15 = 32768 := by decide
  rw [e'] at e
  omega

theorem G_lt {s x : Nat} (h : s < 65536) (hx : x < 2) : G s x < 65536 := by
  unfold G
  apply Nat.xor_lt_two_pow (n := 16)
  · simp; omega
  · have h2 : s % 2 = 0 ∨ s % 2 = 1 := by omega
    rcases h2 with e | e <;> rw [e] <;> decide

theorem G_xor (s u x : Nat) (hs : s < 65536) (hu : u < 65536) (he : u % 2 = 0) : G (s ^^^ u) x = G s 0 ^^^ ((u / 2) ^^^ (32768 * x)) := by
  unfold G
  rw [xor_div2, xor_mod2]
  have e2 : (s + u) % 2 = s % 2 := by omega
  have hl : (s / 2) ^^^ (u / 2) < 2 ^ 15 := Nat.xor_lt_two_pow (by omega) (by omega)
  rw [top_xor _ _ (by simpa using hl), e2]
  simp
  ac_rfl

theorem gfeed_lt (l : List Nat) : ∀ s, s < 65536 → (∀ x ∈ l, x < 2) → gfeed s l < 65536 := by
  induction l with
  | nil => intro s h _; exact h
  | cons x l ih => intro s h hx; exact ih _ (G_lt h (hx x List.mem_cons_self)) (fun y hy => hx y (List.mem_cons_of_mem _ hy))

theorem gfeed_append (l m : List Nat) : ∀ s, gfeed s (l ++ m) = gfeed (gfeed s l) m := by
  induction l with
  | nil => intro s; rfl
  | cons x l ih => intro s; exact ih _

def Gz : Nat → Nat → Nat
  | 0, s => s
  | k + 1, s => Gz k (G s 0)
theorem bitsOf_zero (k : Nat) : bitsOf k 0 = List.replicate k 0 := by
  induction k with
  | zero => rfl
  | succ k ih => simp [bitsOf, ih, List.replicate_succ]
theorem Gz_eq (k : Nat) : ∀ s, Gz k s = gfeed s (List.replicate k 0) := by
  induction k with
  | zero => intro s; rfl
  | succ k ih => intro s; rw [List.replicate_succ]; exact ih _

/-- what has come in stands on top, while fewer than 16 bits came in; u is what came in before, at its place -/
theorem gfeed_in (k : Nat) : ∀ s u t, s < 65536 → k ≤ 16 → u < 65536 → u % 2 ^ k = 0 → gfeed (s ^^^ u) (bitsOf k t) = Gz k s ^^^ (u / 2 ^ k + (t % 2 ^ k) * 2 ^ (16 - k)) := by
  induction k with
  | zero => intro s u t _ _ _ _; simp [gfeed, bitsOf, Gz, Nat.mod_one]
  | succ k ih =>
    intro s u t hs hk hu he
    have h2 : (2 : Nat) ^ (k + 1) = 2 * 2 ^ k := by rw [Nat.pow_succ, Nat.mul_comm]
    have he2 : u % 2 = 0 := by
      have := Nat.mod_mod_of_dvd u (⟨2 ^ k, h2⟩ : 2 ∣ 2 ^ (k + 1))
      rw [he] at this
      omega
    simp only [gfeed, bitsOf, Gz]
    rw [G_xor s u (t % 2) hs hu he2]
    have hx : (u / 2) ^^^ (32768 * (t % 2)) = u / 2 + 32768 * (t % 2) := (top_xor _ _ (by omega)).symm
    rw [hx]
    have hm : t % 2 = 0 ∨ t % 2 = 1 := by omega
    have hpk : (2 : Nat) ^ k * 2 ^ (15 - k) = 32768 := by
      rw [← Nat.pow_add, show k + (15 - k) = 15 by omega]
    have hdu : (u / 2) % 2 ^ k = 0 := by
      rw [h2] at he
      have : u = 2 * (u / 2) := by omega
      rw [this, Nat.mul_mod_mul_left] at he
      omega
    have hz : (u / 2 + 32768 * (t % 2)) % 2 ^ k = 0 := by
      rw [← hpk, Nat.mul_assoc, Nat.add_mul_mod_self_left]
      exact hdu
    rw [ih _ _ _ (G_lt hs (by decide)) (by omega) (by omega) hz]
    congr 1
    have e1 : (u / 2 + 32768 * (t % 2)) / 2 ^ k = u / 2 / 2 ^ k + 2 ^ (15 - k) * (t % 2) := by
      rw [← hpk, Nat.mul_assoc, Nat.add_mul_div_left _ _ (Nat.two_pow_pos k)]
    rw [e1, h2, Nat.div_div_eq_div_mul, show 16 - (k + 1) = 15 - k by omega, show 16 - k = (15 - k) + 1 by omega, Nat.pow_succ]
    have e3 : t % (2 * 2 ^ k) = t % 2 + 2 * (t / 2 % 2 ^ k) := by
      rw [Nat.mod_mul]
    rw [e3]
    generalize 2 ^ (15 - k) = A
    generalize t / 2 % 2 ^ k = B
    rw [Nat.add_mul, Nat.mul_comm A (t % 2), Nat.mul_comm 2 B, Nat.mul_assoc, Nat.mul_comm 2 A]
    omega

/-- sixteen bits fed are the register's own sixteen steps, turned by them -/
theorem gfeed16 (s t : Nat) (hs : s < 65536) (ht : t < 65536) : gfeed s (bitsOf 16 t) = gfeed s (List.replicate 16 0) ^^^ t := by
  have := gfeed_in 16 s 0 t hs (by decide) (by decide) (by decide)
  rw [Nat.xor_zero, Gz_eq, Nat.mod_eq_of_lt (by simpa using ht)] at this
  rw [this]
  simp
/-- so its own sixteen steps fed give 0 -/
theorem gfeed_self (s : Nat) (hs : s < 65536) : gfeed s (bitsOf 16 (gfeed s (List.replicate 16 0))) = 0 := by
  rw [gfeed16 s _ hs (gfeed_lt _ _ hs (by intro x hx; rw [List.mem_replicate] at hx; omega)), Nat.xor_self]


def val : List Nat → Nat
  | [] => 0
  | x :: l => x + 2 * val l
theorem bitsOf_val (l : List Nat) (h : ∀ x ∈ l, x < 2) : bitsOf l.length (val l) = l := by
  induction l with
  | nil => rfl
  | cons x l ih =>
    have hx := h x List.mem_cons_self
    simp only [List.length_cons, bitsOf, val]
    rw [show (x + 2 * val l) % 2 = x by omega, show (x + 2 * val l) / 2 = val l by omega, ih (fun y hy => h y (List.mem_cons_of_mem _ hy))]
theorem val_lt (l : List Nat) (h : ∀ x ∈ l, x < 2) : val l < 2 ^ l.length := by
  induction l with
  | nil => simp [val]
  | cons x l ih =>
    have hx := h x List.mem_cons_self
    have := ih (fun y hy => h y (List.mem_cons_of_mem _ hy))
    simp only [val, List.length_cons, Nat.pow_succ]
    omega

/-- a burst of at most 32 bits in a row is told -/
theorem burst_list (s i0 : Nat) (L M : List Nat) (hs : s < 2 ^ 32) (hlen : L.length = M.length) (hL : ∀ x ∈ L, x < 2) (hM : ∀ x ∈ M, x < 2)
    (hout : ∀ i, i < i0 ∨ i0 + 32 ≤ i → L[i]? = M[i]?) (h : feed s L = feed s M) : L = M := by
  have e1 : L.take i0 = M.take i0 := by
    apply List.ext_getElem?
    intro i
    rw [List.getElem?_take, List.getElem?_take]
    split
    · exact hout i (.inl ‹_›)
    · rfl
  have e3 : L.drop (i0 + 32) = M.drop (i0 + 32) := by
    apply List.ext_getElem?
    intro i
    rw [List.getElem?_drop, List.getElem?_drop]
    exact hout _ (.inr (by omega))
  have cut : ∀ l : List Nat, l = l.take i0 ++ ((l.drop i0).take 32 ++ l.drop (i0 + 32)) := by
    intro l
    rw [← List.drop_drop, List.take_append_drop, List.take_append_drop]
  have hl2 : ((L.drop i0).take 32).length = ((M.drop i0).take 32).length := by simp [hlen]
  have bL : ∀ x ∈ (L.drop i0).take 32, x < 2 := fun x hx => hL x (List.mem_of_mem_drop (List.mem_of_mem_take hx))
  have bM : ∀ x ∈ (M.drop i0).take 32, x < 2 := fun x hx => hM x (List.mem_of_mem_drop (List.mem_of_mem_take hx))
  have bA : ∀ x ∈ M.take i0, x < 2 := fun x hx => hM x (List.mem_of_mem_take hx)
  have bC : ∀ x ∈ M.drop (i0 + 32), x < 2 := fun x hx => hM x (List.mem_of_mem_drop hx)
  have hsA := feed_lt (M.take i0) s hs bA
  have h' : feed s (L.take i0 ++ ((L.drop i0).take 32 ++ L.drop (i0 + 32))) = feed s (M.take i0 ++ ((M.drop i0).take 32 ++ M.drop (i0 + 32))) := by
    rw [← cut L, ← cut M]; exact h
  rw [feed_append, feed_append, feed_append, feed_append, e1, e3] at h'
  have h2 := feed_inj _ _ _ (feed_lt _ _ hsA bL) (feed_lt _ _ hsA bM) bC h'
  have h3 : val ((L.drop i0).take 32) = val ((M.drop i0).take 32) := by
    refine burst ((L.drop i0).take 32).length (feed s (M.take i0)) _ _ (List.length_take_le _ _) hsA (val_lt _ bL) (by rw [hl2]; exact val_lt _ bM) ?_
    rw [bitsOf_val _ bL, hl2, bitsOf_val _ bM]
    exact h2
  have e2 : (L.drop i0).take 32 = (M.drop i0).take 32 := by
    rw [← bitsOf_val _ bL, ← bitsOf_val _ bM, hl2, h3]
  rw [cut L, cut M, e1, e2, e3]

end Crc

namespace Go.Proofs.YtaiaapjlpbhlbaaDoor.U
open Go.RowKit Go.Proofs.YtaiaapjlpbhlbaaDoorW.PrintWords Go.Proofs.YtaiaapjlpbhlbaaDoorW.PrintLast Go.Proofs.YtaiaapjlpbhlbaaDoorW.PrintMore

theorem bits_xor (k : IntKind) (j : Nat) (hj : j ≤ k.bits) (hk : ∀ n : Int, 0 ≤ n → n < 2 ^ j → k.wrap n = n) (a b : Nat) (ha : a < 2 ^ j) (hb : b < 2 ^ j) :
    Go.bits .xor k a b = ((a ^^^ b : Nat) : Int) := by
  have hp : 2 ^ j ≤ 2 ^ k.bits := Nat.pow_le_pow_right (by decide) hj
  have ha' : a % 2 ^ k.bits = a := Nat.mod_eq_of_lt (Nat.lt_of_lt_of_le ha hp)
  have hb' : b % 2 ^ k.bits = b := Nat.mod_eq_of_lt (Nat.lt_of_lt_of_le hb hp)
  have cast : ∀ n : Nat, n < 2 ^ j → ((n : Nat) : Int) < 2 ^ j := fun n h => by exact_mod_cast h
  simp only [Go.bits, BitVec.ofInt_natCast, BitVec.toNat_xor, BitVec.toNat_ofNat, ha', hb']
  exact hk _ (Int.natCast_nonneg _) (cast _ (Nat.xor_lt_two_pow ha hb))
theorem wraps_i64 (n : Int) (h₀ : 0 ≤ n) (h₁ : n < 2 ^ 63) : IntKind.i64.wrap n = n := by rw [IntKind.wrap_i64]; omega
theorem xor_u8 (a b : Nat) (ha : a < 256) (hb : b < 256) : Go.bits .xor .u8 a b = ((a ^^^ b : Nat) : Int) := bits_xor .u8 8 (by decide) wraps_u8 a b ha hb
theorem xor_u16 (a b : Nat) (ha : a < 65536) (hb : b < 65536) : Go.bits .xor .u16 a b = ((a ^^^ b : Nat) : Int) := bits_xor .u16 16 (by decide) wraps_u16 a b ha hb
theorem xor_u32 (a b : Nat) (ha : a < 4294967296) (hb : b < 4294967296) : Go.bits .xor .u32 a b = ((a ^^^ b : Nat) : Int) := bits_xor .u32 32 (by decide) wraps_u32 a b ha hb
theorem xor_u64 (a b : Nat) (ha : a < 2 ^ 64) (hb : b < 2 ^ 64) : Go.bits .xor .u64 a b = ((a ^^^ b : Nat) : Int) := bits_xor .u64 64 (by decide) wraps_u64 a b ha hb
theorem xor_i64 (a b : Nat) (ha : a < 2 ^ 63) (hb : b < 2 ^ 63) : Go.bits .xor .i64 a b = ((a ^^^ b : Nat) : Int) := bits_xor .i64 63 (by decide) wraps_i64 a b ha hb
theorem and1_u32 (a : Nat) (ha : a < 4294967296) : Go.bits .and .u32 a 1 = ((a % 2 : Nat) : Int) := by
  have := bits_mask .u32 32 (by decide) wraps_u32 1 (by decide) (a : Int) (by omega) (by omega)
  exact this
theorem and1_u16 (a : Nat) (ha : a < 65536) : Go.bits .and .u16 a 1 = ((a % 2 : Nat) : Int) := by
  have := bits_mask .u16 16 (by decide) wraps_u16 1 (by decide) (a : Int) (by omega) (by omega)
  exact this
theorem and1_u8 (a : Nat) (ha : a < 256) : Go.bits .and .u8 a 1 = ((a % 2 : Nat) : Int) := by
  have := bits_mask .u8 8 (by decide) wraps_u8 1 (by decide) (a : Int) (by omega) (by omega)
  exact this
theorem w64 {n : Int} (h0 : -9223372036854775808 ≤ n) (h1 : n ≤ 9223372036854775807) : wrap64 n = n := by unfold wrap64; omega
theorem wu64 {n : Int} (h0 : 0 ≤ n) (h1 : n < 18446744073709551616) : IntKind.u64.wrap n = n := by rw [IntKind.wrap_u64]; omega
theorem wu16 {n : Int} (h0 : 0 ≤ n) (h1 : n < 65536) : IntKind.u16.wrap n = n := by rw [IntKind.wrap_u16]; omega

/-- numbers, as the print has them -/
def cst (ns : List Nat) : List Int := ns.map fun n : Nat => (n : Int)
def small (ns : List Nat) : Prop := ∀ n ∈ ns, n < 256
theorem cst_of (l : List Int) (h : ∀ x ∈ l, (Lit.int .u8 x).wf = true) : ∃ ns, l = cst ns ∧ small ns := by
  induction l with
  | nil => exact ⟨[], rfl, fun n hn => by cases hn⟩
  | cons x l ih =>
    obtain ⟨ns, e, hs⟩ := ih fun y hy => h y (List.mem_cons_of_mem _ hy)
    have hx := h x List.mem_cons_self
    simp [Lit.wf, IntKind.min, IntKind.max, IntKind.signed, IntKind.bits] at hx
    refine ⟨x.toNat :: ns, ?_, ?_⟩
    · rw [e]; simp [cst]; omega
    · intro n hn
      rcases List.mem_cons.1 hn with hn | hn
      · omega
      · exact hs n hn
theorem cst_length (ns : List Nat) : (cst ns).length = ns.length := by simp [cst]
theorem cst_append (a b : List Nat) : cst (a ++ b) = cst a ++ cst b := by simp [cst]
theorem cst_take (a : List Nat) (n : Nat) : (cst a).take n = cst (a.take n) := by simp [cst, List.map_take]
theorem cst_drop (a : List Nat) (n : Nat) : (cst a).drop n = cst (a.drop n) := by simp [cst, List.map_drop]
theorem cst_inj {a b : List Nat} (h : cst a = cst b) : a = b := by
  induction a generalizing b with
  | nil => cases b with | nil => rfl | cons y b => simp [cst] at h
  | cons x a ih =>
    cases b with
    | nil => simp [cst] at h
    | cons y b =>
      simp only [cst, List.map_cons, List.cons.injEq] at h
      rw [ih h.2, show x = y by omega]
theorem rd_cst (ns : List Nat) (i : Nat) : rd (cst ns) (i : Int) = ((ns.getD i 0 : Nat) : Int) := by
  unfold rd cst
  rw [List.getD_eq_getElem?_getD, List.getD_eq_getElem?_getD, Int.toNat_natCast, List.getElem?_map]
  cases ns[i]? <;> rfl
theorem getD_small {ns : List Nat} (h : small ns) (i : Nat) : ns.getD i 0 < 256 := by
  rw [List.getD_eq_getElem?_getD]
  cases hx : ns[i]? with
  | none => decide
  | some x => exact h x (List.mem_of_getElem? hx)
theorem small_take {ns : List Nat} (h : small ns) (n : Nat) : small (ns.take n) := fun x hx => h x (List.mem_of_mem_take hx)
theorem small_drop {ns : List Nat} (h : small ns) (n : Nat) : small (ns.drop n) := fun x hx => h x (List.mem_of_mem_drop hx)
theorem small_append {a b : List Nat} (ha : small a) (hb : small b) : small (a ++ b) := fun x hx => (List.mem_append.1 hx).elim (ha x) (hb x)
theorem drop_getD (ns : List Nat) (i : Nat) (h : i < ns.length) : ns.drop i = ns.getD i 0 :: ns.drop (i + 1) := by
  rw [List.drop_eq_getElem_cons h, List.getD_eq_getElem?_getD, List.getElem?_eq_getElem h]; rfl
theorem take_getD (ns : List Nat) (i : Nat) (h : i < ns.length) : ns.take (i + 1) = ns.take i ++ [ns.getD i 0] := by
  rw [List.take_succ_eq_append_getElem h, List.getD_eq_getElem?_getD, List.getElem?_eq_getElem h]; rfl

/-! ### the two sums -/
def bitsL (ns : List Nat) : List Nat := ns.flatMap (Crc.bitsOf 8)
theorem bitsL_lt (ns : List Nat) : ∀ x ∈ bitsL ns, x < 2 := by
  intro x hx
  obtain ⟨n, _, h⟩ := List.mem_flatMap.1 hx
  exact Crc.bitsOf_lt 8 n x h
theorem bitsL_append (a b : List Nat) : bitsL (a ++ b) = bitsL a ++ bitsL b := by simp [bitsL]
theorem bitsL_cons (a : Nat) (b : List Nat) : bitsL (a :: b) = Crc.bitsOf 8 a ++ bitsL b := by simp [bitsL]
theorem bitsOf_length (k n : Nat) : (Crc.bitsOf k n).length = k := by
  induction k generalizing n with
  | zero => rfl
  | succ k ih => simp [Crc.bitsOf, ih]
theorem bitsL_length (ns : List Nat) : (bitsL ns).length = 8 * ns.length := by
  induction ns with
  | nil => rfl
  | cons a l ih => rw [bitsL_cons, List.length_append, ih, bitsOf_length, List.length_cons]; omega
/-- the register behind bytes -/
def regL (ns : List Nat) : Nat := Crc.feed 4294967295 (bitsL ns)
def longN (ns : List Nat) : Nat := 4294967295 - regL ns
def shortN (ns : List Nat) : Nat := Crc.gfeed 32768 (bitsL (ns ++ [0, 0]))
theorem regL_lt (ns : List Nat) : regL ns < 4294967296 := Crc.feed_lt _ _ (by decide) (bitsL_lt ns)
theorem longN_lt (ns : List Nat) : longN ns < 4294967296 := by unfold longN; omega
theorem shortN_lt (ns : List Nat) : shortN ns < 65536 := Crc.gfeed_lt _ _ (by decide) (bitsL_lt _)
theorem feed_byte (s b : Nat) (hb : b < 256) : Crc.Fn 8 (s ^^^ b) = Crc.feed s (Crc.bitsOf 8 b) := Crc.Fn_feed_all 8 s b hb
theorem not_u32 (s : Nat) (h : s < 4294967296) : 4294967295 ^^^ s = 4294967295 - s := by
  have e := BitVec.toNat_not (x := BitVec.ofNat 32 s)
  rw [BitVec.not_def] at e
  simp only [BitVec.toNat_xor, BitVec.toNat_ofNat, Nat.mod_eq_of_lt (show s < 2 ^ 32 from h)] at e
  have e2 : (BitVec.allOnes 32).toNat = 4294967295 := by decide
  rw [e2] at e
  simpa using e
theorem ref_bit (s b : Nat) (hb : b < 2) : Crc.F (s ^^^ b) = if (s + b) % 2 = 1 then (s / 2) ^^^ 3988292384 else s / 2 := by
  unfold Crc.F
  rw [Crc.xor_div2, Crc.xor_mod2, show b / 2 = 0 by omega, Nat.xor_zero]
  split
  · rename_i h; rw [h]
  · rename_i h; rw [show (s + b) % 2 = 0 by omega]; simp
theorem step16 (s x : Nat) : Crc.G s x = if s % 2 = 1 then (s / 2 + 32768 * x) ^^^ 33800 else s / 2 + 32768 * x := by
  unfold Crc.G
  split
  · rename_i h; rw [h]
  · rename_i h; rw [show s % 2 = 0 by omega]; simp

/-- equal frames' registers: bytes that differ in at most 32 bits in a row -/
theorem reg_burst (pre a b : List Nat) (i0 : Nat) (hlen : a.length = b.length)
    (hout : ∀ i, i < i0 ∨ i0 + 32 ≤ i → (bitsL a)[i]? = (bitsL b)[i]?) (h : regL (pre ++ a) = regL (pre ++ b)) : bitsL a = bitsL b := by
  unfold regL at h
  rw [bitsL_append, bitsL_append, Crc.feed_append, Crc.feed_append] at h
  exact Crc.burst_list _ i0 _ _ (Crc.feed_lt _ _ (by decide) (bitsL_lt pre)) (by rw [bitsL_length, bitsL_length, hlen]) (bitsL_lt a) (bitsL_lt b) hout h
/-! ### frames -/
def lay4 (n : Nat) : List Nat := [n % 256, n / 256 % 256, n / 65536 % 256, n / 16777216 % 256]
def take4 (ns : List Nat) : Nat := ns.getD 0 0 + 256 * ns.getD 1 0 + 65536 * ns.getD 2 0 + 16777216 * ns.getD 3 0
def frameN (ns : List Nat) : List Nat := lay4 ns.length ++ lay4 (longN (lay4 ns.length ++ ns)) ++ ns
def bodyN (ns : List Nat) : List Nat := (ns.take (8 + take4 ns)).drop 8
def badSize (ns : List Nat) : Prop := 16777216 < take4 ns ∨ ns.length < 8 + take4 ns
instance (ns : List Nat) : Decidable (badSize ns) := by unfold badSize; exact inferInstance
def nextN (ns : List Nat) : List Nat × Nat × Nat :=
  if ns.length = 0 then ([], 0, 4) else if ns.length < 8 then ([], 0, 2) else if badSize ns then ([], 0, 2)
  else if longN (ns.take 4 ++ bodyN ns) = take4 (ns.drop 4) then (bodyN ns, 8 + take4 ns, 0) else ([], 0, 3)
theorem small_lay4 (n : Nat) : small (lay4 n) := by intro x hx; simp only [lay4, List.mem_cons, List.not_mem_nil, or_false] at hx; omega
theorem lay4_length (n : Nat) : (lay4 n).length = 4 := rfl
theorem frameN_length (ns : List Nat) : (frameN ns).length = 8 + ns.length := by simp [frameN, lay4_length]; omega
theorem small_frameN {ns : List Nat} (h : small ns) : small (frameN ns) := small_append (small_append (small_lay4 _) (small_lay4 _)) h
theorem take4_lay4 (n : Nat) (h : n < 4294967296) (r : List Nat) : take4 (lay4 n ++ r) = n := by
  simp only [take4, lay4, List.cons_append, List.nil_append, List.getD_eq_getElem?_getD, List.getElem?_cons_zero, List.getElem?_cons_succ, Option.getD_some]
  omega
theorem four {ns : List Nat} (h : 4 ≤ ns.length) : ∃ a b c d r, ns = a :: b :: c :: d :: r := by
  match ns, h with
  | a :: b :: c :: d :: r, _ => exact ⟨a, b, c, d, r, rfl⟩
theorem lay4_take4 {ns : List Nat} (h : 4 ≤ ns.length) (hs : small ns) : lay4 (take4 ns) = ns.take 4 := by
  obtain ⟨a, b, c, d, r, rfl⟩ := four h
  have ha := hs a (by simp)
  have hb := hs b (by simp)
  have hc := hs c (by simp)
  have hd := hs d (by simp)
  simp only [take4, lay4, List.getD_eq_getElem?_getD, List.getElem?_cons_zero, List.getElem?_cons_succ, Option.getD_some, List.take_succ_cons, List.take_zero]
  simp only [List.cons.injEq, and_true]
  omega
theorem take4_lt {ns : List Nat} (hs : small ns) : take4 ns < 4294967296 := by
  have h0 := getD_small hs 0
  have h1 := getD_small hs 1
  have h2 := getD_small hs 2
  have h3 := getD_small hs 3
  unfold take4
  omega
theorem take4_take (ns : List Nat) (k : Nat) (hk : 4 ≤ k) : take4 (ns.take k) = take4 ns := by
  unfold take4
  simp only [List.getD_eq_getElem?_getD, List.getElem?_take, show 0 < k by omega, show 1 < k by omega, show 2 < k by omega, show 3 < k by omega, if_true]
theorem frame_head (ns : List Nat) (h : ns.length < 4294967296) : take4 (frameN ns) = ns.length := by
  unfold frameN
  rw [List.append_assoc, take4_lay4 _ h]
theorem frame_sum (ns : List Nat) : take4 ((frameN ns).drop 4) = longN (lay4 ns.length ++ ns) := by
  have e : (frameN ns).drop 4 = lay4 (longN (lay4 ns.length ++ ns)) ++ ns := by
    unfold frameN
    rw [List.append_assoc, List.drop_append_of_le_length (by simp [lay4_length]), List.drop_of_length_le (by simp [lay4_length]), List.nil_append]
  rw [e, take4_lay4 _ (longN_lt _)]
theorem frame_drop8 (ns : List Nat) : (frameN ns).drop 8 = ns := by
  unfold frameN
  rw [List.drop_append_of_le_length (by simp [lay4_length]), List.drop_of_length_le (by simp [lay4_length]), List.nil_append]
theorem frame_take4 (ns : List Nat) : (frameN ns).take 4 = lay4 ns.length := by
  unfold frameN
  rw [List.append_assoc, List.take_append_of_le_length (by simp [lay4_length]), List.take_of_length_le (by simp [lay4_length])]
/-- a frame is read again, whatever stands behind -/
theorem next_frame (ns rest : List Nat) (h : ns.length ≤ 16777216) : nextN (frameN ns ++ rest) = (ns, 8 + ns.length, 0) := by
  have hl := frameN_length ns
  have ht : take4 (frameN ns ++ rest) = ns.length := by
    rw [← take4_take _ 4 (by omega), List.take_append_of_le_length (by omega), take4_take _ 4 (by omega), frame_head ns (by omega)]
  have hb : bodyN (frameN ns ++ rest) = ns := by
    unfold bodyN
    rw [ht, List.take_append_of_le_length (by omega), List.take_of_length_le (by omega), frame_drop8]
  have hd : take4 ((frameN ns ++ rest).drop 4) = longN (lay4 ns.length ++ ns) := by
    rw [← take4_take _ 4 (by omega), List.drop_append_of_le_length (by omega), List.take_append_of_le_length (by rw [List.length_drop]; omega), take4_take _ 4 (by omega), frame_sum]
  unfold nextN
  rw [if_neg (by rw [List.length_append]; omega), if_neg (by rw [List.length_append]; omega), if_neg (by unfold badSize; rw [ht, List.length_append]; omega), hb, hd, ht, List.take_append_of_le_length (by omega), frame_take4, if_pos rfl]
/-- what is read is a frame -/
theorem frame_next (ns : List Nat) (hs : small ns) (h0 : ¬ ns.length < 8) (hb : ¬ badSize ns) (h : longN (ns.take 4 ++ bodyN ns) = take4 (ns.drop 4)) : frameN (bodyN ns) = ns.take (8 + take4 ns) := by
  unfold badSize at hb
  have hlen : (bodyN ns).length = take4 ns := by unfold bodyN; rw [List.length_drop, List.length_take]; omega
  unfold frameN
  rw [hlen, lay4_take4 (by omega) hs, h, lay4_take4 (by rw [List.length_drop]; omega) (small_drop hs 4)]
  unfold bodyN
  have e1 : ns.take 8 = ns.take 4 ++ (ns.drop 4).take 4 := by
    rw [show 8 = 4 + 4 from rfl, List.take_add]
  rw [← e1]
  have e2 : ns.take 8 = (ns.take (8 + take4 ns)).take 8 := by rw [List.take_take]; congr 1; omega
  rw [e2, List.take_append_drop]
end Go.Proofs.YtaiaapjlpbhlbaaDoor.U
