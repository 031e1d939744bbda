import Derived.Laws.BitsLemmas
import Derived.Lib.EndianBits
import Derived.Test.YtaiaapjlpbhlbaaDoorZWMore
import Derived.Test.YtaiaapjlpbhlbaaDoorZWNEv
namespace Crc

def F (s : Nat) : Nat := (s / 2) ^^^ (3988292384 * (s % 2))
def Fn : Nat → Nat → Nat
 | 0, s => s
 | k + 1, s => Fn k (F s)
def feed (s : Nat) : List Nat → Nat
 | [] => s
 | x :: xs => feed (F (s ^^^ x)) xs
def bitsOf : Nat → Nat → List Nat
 | 0, _ => []
 | k + 1, n => (n % 2) :: bitsOf k (n / 2)

theorem xor_mod2 (a b : Nat) : (a ^^^ b) % 2 = (a + b) % 2 := by
 have h := Nat.testBit_xor a b 0
 simp only [Nat.testBit_zero] at h
 have h1 : (a ^^^ b) % 2 = 0 ∨ (a ^^^ b) % 2 = 1 := by omega
 have h2 : a % 2 = 0 ∨ a % 2 = 1 := by omega
 have h3 : b % 2 = 0 ∨ b % 2 = 1 := by omega
 rcases h1 with h1 | h1 <;> rcases h2 with h2 | h2 <;> rcases h3 with h3 | h3 <;> simp [h1, h2, h3] at h <;> omega

theorem xor_div2 (a b : Nat) : (a ^^^ b) / 2 = (a / 2) ^^^ (b / 2) := by
 apply Nat.eq_of_testBit_eq
 intro i
 simp [Nat.testBit_div_two, Nat.testBit_xor]

theorem xor_rc {a b c : Nat} (h : a ^^^ c = b ^^^ c) : a = b := by
 have := congrArg (· ^^^ c) h
 simpa [Nat.xor_assoc] using this
theorem xor_lc {a b c : Nat} (h : c ^^^ a = c ^^^ b) : a = b := by
 rw [Nat.xor_comm c a, Nat.xor_comm c b] at h
 exact xor_rc h

theorem bitsOf_lt (k : Nat) : ∀ n, ∀ x ∈ bitsOf k n, x < 2 := by
 induction k with
 | zero => intro n x h; cases h
 | succ k ih =>
  intro n x h
  rcases List.mem_cons.1 h with h | h
  ·omega
  ·exact ih _ _ h

def G (s x : Nat) : Nat := (s / 2 + 32768 * x) ^^^ (33800 * (s % 2))
def gfeed (s : Nat) : List Nat → Nat
 | [] => s
 | x :: xs => gfeed (G s x) xs

theorem top_xor (a x : Nat) (h : a < 32768) : a + 32768 * x = a ^^^ (32768 * x) := by
 have := Nat.two_pow_add_eq_or_of_lt (i := 15) (by simpa using h) x
 have e : a ||| 2 ^ 15 * x = a ^^^ (2 ^ 15 * x) := by
  apply Nat.eq_of_testBit_eq
  intro i
  rw [Nat.testBit_or, Nat.testBit_xor, Nat.testBit_two_pow_mul]
  by_cases hi : 15 ≤ i
  ·have : a.testBit i = false := Nat.testBit_lt_two_pow (Nat.lt_of_lt_of_le h (Nat.pow_le_pow_right (by decide) hi : 2 ^ 15 ≤ 2 ^ i))
   simp [this]
  ·simp [hi]
 rw [Nat.or_comm, ← this] at e
 have e' : (2 : Nat) ^ 15 = 32768 := by decide
 rw [e'] at e
 omega

theorem G_lt {s x : Nat} (h : s < 65536) (hx : x < 2) : G s x < 65536 := by
 unfold G
 apply Nat.xor_lt_two_pow (n := 16)
 ·simp; omega
 ·have h2 : s % 2 = 0 ∨ s % 2 = 1 := by omega
  rcases h2 with e | e <;> rw [e] <;> decide

theorem G_xor (s u x : Nat) (hs : s < 65536) (hu : u < 65536) (he : u % 2 = 0) : G (s ^^^ u) x = G s 0 ^^^ ((u / 2) ^^^ (32768 * x)) := by
 unfold G
 rw [xor_div2, xor_mod2]
 have e2 : (s + u) % 2 = s % 2 := by omega
 have hl : (s / 2) ^^^ (u / 2) < 2 ^ 15 := Nat.xor_lt_two_pow (by omega) (by omega)
 rw [top_xor _ _ (by simpa using hl), e2]
 simp
 ac_rfl

theorem gfeed_lt (l : List Nat) : ∀ s, s < 65536 → (∀ x ∈ l, x < 2) → gfeed s l < 65536 := by
 induction l with
 | nil => intro s h _; exact h
 | cons x l ih => intro s h hx; exact ih _ (G_lt h (hx x List.mem_cons_self)) (fun y hy => hx y (List.mem_cons_of_mem _ hy))

theorem gfeed_append (l m : List Nat) : ∀ s, gfeed s (l ++ m) = gfeed (gfeed s l) m := by
 induction l with
 | nil => intro s; rfl
 | cons x l ih => intro s; exact ih _

def Gz : Nat → Nat → Nat
 | 0, s => s
 | k + 1, s => Gz k (G s 0)
theorem Gz_eq (k : Nat) : ∀ s, Gz k s = gfeed s (List.replicate k 0) := by
 induction k with
 | zero => intro s; rfl
 | succ k ih => intro s; rw [List.replicate_succ]; exact ih _

theorem gfeed_in (k : Nat) : ∀ s u t, s < 65536 → k ≤ 16 → u < 65536 → u % 2 ^ k = 0 → gfeed (s ^^^ u) (bitsOf k t) = Gz k s ^^^ (u / 2 ^ k + (t % 2 ^ k) * 2 ^ (16 - k)) := by
 induction k with
 | zero => intro s u t _ _ _ _; simp [gfeed, bitsOf, Gz, Nat.mod_one]
 | succ k ih =>
  intro s u t hs hk hu he
  have h2 : (2 : Nat) ^ (k + 1) = 2 * 2 ^ k := by rw [Nat.pow_succ, Nat.mul_comm]
  have he2 : u % 2 = 0 := by
   have := Nat.mod_mod_of_dvd u (⟨2 ^ k, h2⟩ : 2 ∣ 2 ^ (k + 1))
   rw [he] at this
   omega
  simp only [gfeed, bitsOf, Gz]
  rw [G_xor s u (t % 2) hs hu he2]
  have hx : (u / 2) ^^^ (32768 * (t % 2)) = u / 2 + 32768 * (t % 2) := (top_xor _ _ (by omega)).symm
  rw [hx]
  have hm : t % 2 = 0 ∨ t % 2 = 1 := by omega
  have hpk : (2 : Nat) ^ k * 2 ^ (15 - k) = 32768 := by
   rw [← Nat.pow_add, show k + (15 - k) = 15 by omega]
  have hdu : (u / 2) % 2 ^ k = 0 := by
   rw [h2] at he
   have : u = 2 * (u / 2) := by omega
   rw [this, Nat.mul_mod_mul_left] at he
   omega
  have hz : (u / 2 + 32768 * (t % 2)) % 2 ^ k = 0 := by
   rw [← hpk, Nat.mul_assoc, Nat.add_mul_mod_self_left]
   exact hdu
  rw [ih _ _ _ (G_lt hs (by decide)) (by omega) (by omega) hz]
  congr 1
  have e1 : (u / 2 + 32768 * (t % 2)) / 2 ^ k = u / 2 / 2 ^ k + 2 ^ (15 - k) * (t % 2) := by
   rw [← hpk, Nat.mul_assoc, Nat.add_mul_div_left _ _ (Nat.two_pow_pos k)]
  rw [e1, h2, Nat.div_div_eq_div_mul, show 16 - (k + 1) = 15 - k by omega, show 16 - k = (15 - k) + 1 by omega, Nat.pow_succ]
  have e3 : t % (2 * 2 ^ k) = t % 2 + 2 * (t / 2 % 2 ^ k) := by
   rw [Nat.mod_mul]
  rw [e3]
  generalize 2 ^ (15 - k) = A
  generalize t / 2 % 2 ^ k = B
  rw [Nat.add_mul, Nat.mul_comm A (t % 2), Nat.mul_comm 2 B, Nat.mul_assoc, Nat.mul_comm 2 A]
  omega

theorem gfeed16 (s t : Nat) (hs : s < 65536) (ht : t < 65536) : gfeed s (bitsOf 16 t) = gfeed s (List.replicate 16 0) ^^^ t := by
 have := gfeed_in 16 s 0 t hs (by decide) (by decide) (by decide)
 rw [Nat.xor_zero, Gz_eq, Nat.mod_eq_of_lt (by simpa using ht)] at this
 rw [this]
 simp
theorem gfeed_self (s : Nat) (hs : s < 65536) : gfeed s (bitsOf 16 (gfeed s (List.replicate 16 0))) = 0 := by
 rw [gfeed16 s _ hs (gfeed_lt _ _ hs (by intro x hx; rw [List.mem_replicate] at hx; omega)), Nat.xor_self]


def val : List Nat → Nat
 | [] => 0
 | x :: l => x + 2 * val l
end Crc

namespace Go.Proofs.YtaiaapjlpbhlbaaDoor.U
open Go.RowKit Go.Proofs.YtaiaapjlpbhlbaaDoorW.PrintWords Go.Proofs.YtaiaapjlpbhlbaaDoorW.PrintLast Go.Proofs.YtaiaapjlpbhlbaaDoorW.PrintMore

theorem bits_xor (k : IntKind) (j : Nat) (hj : j ≤ k.bits) (hk : ∀ n : Int, 0 ≤ n → n < 2 ^ j → k.wrap n = n) (a b : Nat) (ha : a < 2 ^ j) (hb : b < 2 ^ j) :
  Go.bits .xor k a b = ((a ^^^ b : Nat) : Int) := by
 have hp : 2 ^ j ≤ 2 ^ k.bits := Nat.pow_le_pow_right (by decide) hj
 have ha' : a % 2 ^ k.bits = a := Nat.mod_eq_of_lt (Nat.lt_of_lt_of_le ha hp)
 have hb' : b % 2 ^ k.bits = b := Nat.mod_eq_of_lt (Nat.lt_of_lt_of_le hb hp)
 have cast : ∀ n : Nat, n < 2 ^ j → ((n : Nat) : Int) < 2 ^ j := fun n h => by exact_mod_cast h
 simp only [Go.bits, BitVec.ofInt_natCast, BitVec.toNat_xor, BitVec.toNat_ofNat, ha', hb']
 exact hk _ (Int.natCast_nonneg _) (cast _ (Nat.xor_lt_two_pow ha hb))
theorem wraps_i64 (n : Int) (h₀ : 0 ≤ n) (h₁ : n < 2 ^ 63) : IntKind.i64.wrap n = n := by rw [IntKind.wrap_i64]; omega
theorem xor_u16 (a b : Nat) (ha : a < 65536) (hb : b < 65536) : Go.bits .xor .u16 a b = ((a ^^^ b : Nat) : Int) := bits_xor .u16 16 (by decide) wraps_u16 a b ha hb
theorem and1_u16 (a : Nat) (ha : a < 65536) : Go.bits .and .u16 a 1 = ((a % 2 : Nat) : Int) := by
 have := bits_mask .u16 16 (by decide) wraps_u16 1 (by decide) (a : Int) (by omega) (by omega)
 exact this
theorem and1_u8 (a : Nat) (ha : a < 256) : Go.bits .and .u8 a 1 = ((a % 2 : Nat) : Int) := by
 have := bits_mask .u8 8 (by decide) wraps_u8 1 (by decide) (a : Int) (by omega) (by omega)
 exact this
theorem w64 {n : Int} (h0 : -9223372036854775808 ≤ n) (h1 : n ≤ 9223372036854775807) : wrap64 n = n := by unfold wrap64; omega
theorem wu16 {n : Int} (h0 : 0 ≤ n) (h1 : n < 65536) : IntKind.u16.wrap n = n := by rw [IntKind.wrap_u16]; omega

def cst (ns : List Nat) : List Int := ns.map fun n : Nat => (n : Int)
def small (ns : List Nat) : Prop := ∀ n ∈ ns, n < 256
theorem cst_of (l : List Int) (h : ∀ x ∈ l, (Lit.int .u8 x).wf = true) : ∃ ns, l = cst ns ∧ small ns := by
 induction l with
 | nil => exact ⟨[], rfl, fun n hn => by cases hn⟩
 | cons x l ih =>
  obtain ⟨ns, e, hs⟩ := ih fun y hy => h y (List.mem_cons_of_mem _ hy)
  have hx := h x List.mem_cons_self
  simp [Lit.wf, IntKind.min, IntKind.max, IntKind.signed, IntKind.bits] at hx
  refine ⟨x.toNat :: ns, ?_, ?_⟩
  ·rw [e]; simp [cst]; omega
  ·intro n hn
   rcases List.mem_cons.1 hn with hn | hn
   ·omega
   ·exact hs n hn
theorem cst_length (ns : List Nat) : (cst ns).length = ns.length := by simp [cst]
theorem cst_append (a b : List Nat) : cst (a ++ b) = cst a ++ cst b := by simp [cst]
theorem cst_take (a : List Nat) (n : Nat) : (cst a).take n = cst (a.take n) := by simp [cst, List.map_take]
theorem cst_drop (a : List Nat) (n : Nat) : (cst a).drop n = cst (a.drop n) := by simp [cst, List.map_drop]
theorem rd_cst (ns : List Nat) (i : Nat) : rd (cst ns) (i : Int) = ((ns.getD i 0 : Nat) : Int) := by
 unfold rd cst
 rw [List.getD_eq_getElem?_getD, List.getD_eq_getElem?_getD, Int.toNat_natCast, List.getElem?_map]
 cases ns[i]? <;> rfl
theorem getD_small {ns : List Nat} (h : small ns) (i : Nat) : ns.getD i 0 < 256 := by
 rw [List.getD_eq_getElem?_getD]
 cases hx : ns[i]? with
 | none => decide
 | some x => exact h x (List.mem_of_getElem? hx)
theorem small_take {ns : List Nat} (h : small ns) (n : Nat) : small (ns.take n) := fun x hx => h x (List.mem_of_mem_take hx)
theorem small_drop {ns : List Nat} (h : small ns) (n : Nat) : small (ns.drop n) := fun x hx => h x (List.mem_of_mem_drop hx)
theorem small_append {a b : List Nat} (ha : small a) (hb : small b) : small (a ++ b) := fun x hx => (List.mem_append.1 hx).elim (ha x) (hb x)
theorem drop_getD (ns : List Nat) (i : Nat) (h : i < ns.length) : ns.drop i = ns.getD i 0 :: ns.drop (i + 1) := by
 rw [List.drop_eq_getElem_cons h, List.getD_eq_getElem?_getD, List.getElem?_eq_getElem h]; rfl
def bitsL (ns : List Nat) : List Nat := ns.flatMap (Crc.bitsOf 8)
theorem bitsL_lt (ns : List Nat) : ∀ x ∈ bitsL ns, x < 2 := by
 intro x hx
 obtain ⟨n, _, h⟩ := List.mem_flatMap.1 hx
 exact Crc.bitsOf_lt 8 n x h
theorem bitsL_append (a b : List Nat) : bitsL (a ++ b) = bitsL a ++ bitsL b := by simp [bitsL]
theorem bitsL_cons (a : Nat) (b : List Nat) : bitsL (a :: b) = Crc.bitsOf 8 a ++ bitsL b := by simp [bitsL]
def regL (ns : List Nat) : Nat := Crc.feed 4294967295 (bitsL ns)
def longN (ns : List Nat) : Nat := 4294967295 - regL ns
def shortN (ns : List Nat) : Nat := Crc.gfeed 32768 (bitsL (ns ++ [0, 0]))
theorem shortN_lt (ns : List Nat) : shortN ns < 65536 := Crc.gfeed_lt _ _ (by decide) (bitsL_lt _)
def lay4 (n : Nat) : List Nat := [n % 256, n / 256 % 256, n / 65536 % 256, n / 16777216 % 256]
def take4 (ns : List Nat) : Nat := ns.getD 0 0 + 256 * ns.getD 1 0 + 65536 * ns.getD 2 0 + 16777216 * ns.getD 3 0
def frameN (ns : List Nat) : List Nat := lay4 ns.length ++ lay4 (longN (lay4 ns.length ++ ns)) ++ ns
def bodyN (ns : List Nat) : List Nat := (ns.take (8 + take4 ns)).drop 8
def badSize (ns : List Nat) : Prop := 16777216 < take4 ns ∨ ns.length < 8 + take4 ns
instance (ns : List Nat) : Decidable (badSize ns) := by unfold badSize; exact inferInstance
def nextN (ns : List Nat) : List Nat × Nat × Nat :=
 if ns.length = 0 then ([], 0, 4) else if ns.length < 8 then ([], 0, 2) else if badSize ns then ([], 0, 2)
 else if longN (ns.take 4 ++ bodyN ns) = take4 (ns.drop 4) then (bodyN ns, 8 + take4 ns, 0) else ([], 0, 3)
end Go.Proofs.YtaiaapjlpbhlbaaDoor.U

