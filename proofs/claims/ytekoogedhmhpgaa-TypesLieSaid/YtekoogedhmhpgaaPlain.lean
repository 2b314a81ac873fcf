/- Plain words about numbers: the kinds' widths, canonical words, bytes of a word. No program in it. -/
import Derived.WalkKit
import Derived.Laws.BitsAllLaws
import Derived.Lib.Hide
namespace Go.Proofs.Ytekoogedhmhpgaa
open Go.RowKit

/-- How many bits a kind's words have. -/
def width (k : Int) : Int :=
  if k = 1 then 1 else if k = 2 then 8 else if k = 3 then 16 else if k = 4 then 32 else if k = 5 then 64 else if k = 6 then 8 else if k = 7 then 16 else if k = 8 then 32 else if k = 9 then 64 else if k = 10 then 64 else if k = 11 then 64 else 0
def nbytes (k : Int) : Int :=
  if k = 1 then 1 else if k = 2 then 1 else if k = 3 then 2 else if k = 4 then 4 else if k = 5 then 8 else if k = 6 then 1 else if k = 7 then 2 else if k = 8 then 4 else if k = 9 then 8 else if k = 10 then 8 else if k = 11 then 8 else 0
/-- The word of a kind that any 64 bits are: the low bits, a signed kind's sign carried up. -/
def canon (k x : Int) : Int :=
  if k = 1 then x % 2
  else if k = 2 then ((x + 128) % 256 - 128) % 18446744073709551616
  else if k = 3 then ((x + 32768) % 65536 - 32768) % 18446744073709551616
  else if k = 4 then ((x + 2147483648) % 4294967296 - 2147483648) % 18446744073709551616
  else if k = 6 then x % 256 else if k = 7 then x % 65536 else if k = 8 then x % 4294967296
  else if k = 5 then x else if k = 9 then x else if k = 10 then x else if k = 11 then x else 0
def isWord (k x : Int) : Bool := decide (1 ≤ k ∧ k ≤ 11) && decide (canon k x = x)

/-- The number that k bytes are, the lowest one first. -/
def le (f : Nat → Int) : Nat → Int
  | 0 => 0
  | k + 1 => le f k + f k * 256 ^ k
theorem pow256 (k : Nat) : (2 : Int) ^ (8 * k) = 256 ^ k := by rw [Int.pow_mul]; rfl
theorem le_bd (f : Nat → Int) (hf : ∀ i, 0 ≤ f i ∧ f i ≤ 255) (k : Nat) : 0 ≤ le f k ∧ le f k < 256 ^ k := by
  induction k with
  | zero => simp [le]
  | succ k ih =>
    have hp : (0 : Int) < 256 ^ k := Int.pow_pos (by omega)
    have hk := hf k
    have h1 : f k * 256 ^ k ≤ 255 * 256 ^ k := Int.mul_le_mul_of_nonneg_right hk.2 (by omega)
    have h2 : 0 ≤ f k * 256 ^ k := Int.mul_nonneg hk.1 (by omega)
    rw [Int.pow_succ]
    simp only [le]
    omega
theorem pow_le8 (k : Nat) (h : k ≤ 8) : (256 : Int) ^ k ≤ 18446744073709551616 := by
  have : k = 0 ∨ k = 1 ∨ k = 2 ∨ k = 3 ∨ k = 4 ∨ k = 5 ∨ k = 6 ∨ k = 7 ∨ k = 8 := by omega
  rcases this with rfl | rfl | rfl | rfl | rfl | rfl | rfl | rfl | rfl <;> decide
theorem pick_step (f : Nat → Int) (hf : ∀ i, 0 ≤ f i ∧ f i ≤ 255) (k : Nat) (hk : k < 8) : bits .or .u64 (le f k) (IntKind.u64.wrap (f k * 2 ^ (8 * k))) = le f (k + 1) := by
  have hb := le_bd f hf k
  have hb1 := le_bd f hf (k + 1)
  have hp8 := pow_le8 (k + 1) (by omega)
  have hp8' := pow_le8 k (by omega)
  have hp : (0 : Int) < 256 ^ k := Int.pow_pos (by omega)
  have h2 : 0 ≤ f k * 256 ^ k := Int.mul_nonneg (hf k).1 (by omega)
  have hs : le f (k + 1) = le f k + f k * 256 ^ k := rfl
  rw [pow256, IntKind.wrap_u64]
  have e : f k * 256 ^ k % 18446744073709551616 = f k * 256 ^ k := Int.emod_eq_of_lt h2 (by omega)
  rw [e, u64_or _ _ hb.1 (by omega) h2 (by omega), Nat.or_comm, nat_join (8 * k)]
  · omega
  · have : (f k * 256 ^ k).toNat = (f k).toNat * 2 ^ (8 * k) := by
      have h3 : (256 : Int) ^ k = ((2 ^ (8 * k) : Nat) : Int) := by rw [← pow256]; simp
      have h4 : f k = ((f k).toNat : Int) := by have := (hf k).1; omega
      rw [h4, h3, ← Int.natCast_mul, Int.toNat_natCast, Int.toNat_natCast]
    rw [this, Nat.mul_mod_left]
  · have h3 : (256 : Int) ^ k = ((2 ^ (8 * k) : Nat) : Int) := by rw [← pow256]; simp
    rw [h3] at hb
    omega
theorem le_1 (f : Nat → Int) : le f 1 = f 0 := by simp [le]
/-- Byte i of a word. -/
def byteOf (x : Int) (i : Nat) : Int := x / 256 ^ i % 256
theorem byteOf_bd (x : Int) (i : Nat) : 0 ≤ byteOf x i ∧ byteOf x i ≤ 255 := by unfold byteOf; omega
theorem le_byteOf (x : Int) (k : Nat) : le (byteOf x) k = x % 256 ^ k := by
  induction k with
  | zero => simp [le, Int.emod_one]
  | succ k ih =>
    have hp : (0 : Int) < 256 ^ k := Int.pow_pos (by omega)
    simp only [le, ih, byteOf]
    rw [Int.pow_succ]
    have h1 : x % 256 ^ k + 256 ^ k * (x / 256 ^ k) = x := Int.emod_add_mul_ediv x (256 ^ k)
    have h2 : x / 256 ^ k % 256 + 256 * (x / 256 ^ k / 256) = x / 256 ^ k := Int.emod_add_mul_ediv _ 256
    have h3 := Int.emod_nonneg x (show (256 : Int) ^ k ≠ 0 by omega)
    have h4 := Int.emod_lt_of_pos x hp
    generalize hP : (256 : Int) ^ k = P at *
    generalize hQ : x / P = q at *
    generalize hR : x % P = r at *
    have h5 : x = (r + q % 256 * P) + (P * 256) * (q / 256) := by
      have : P * q = P * (q % 256) + P * (256 * (q / 256)) := by rw [← Int.mul_add, h2]
      rw [Int.mul_comm (q % 256), Int.mul_assoc]
      omega
    have h6 : q % 256 * P ≤ 255 * P := Int.mul_le_mul_of_nonneg_right (by omega) (by omega)
    have h7 : 0 ≤ q % 256 * P := Int.mul_nonneg (by omega) (by omega)
    have h8 : (r + q % 256 * P) % (P * 256) = r + q % 256 * P := Int.emod_eq_of_lt (by omega) (by omega)
    rw [h5, Int.add_mul_emod_self_left, h8]
theorem le_congr (f g : Nat → Int) (k : Nat) (h : ∀ i, i < k → f i = g i) : le f k = le g k := by
  induction k with
  | zero => rfl
  | succ k ih => simp only [le]; rw [ih (fun i hi => h i (by omega)), h k (by omega)]

/-- Bytes in which the first k bytes of a word have been laid from place a on. -/
def laid (G : Nat → Int) (x : Int) (a k i : Nat) : Int := if a ≤ i ∧ i < a + k then byteOf x (i - a) else G i
theorem laid_0 (G : Nat → Int) (x : Int) (a i : Nat) : laid G x a 0 i = G i := by unfold laid; rw [if_neg (by omega)]

theorem lay_step (G : Nat → Int) (x : Int) (a k i : Nat) : (if i = a + k then Value.int .u8 (x / 2 ^ (8 * k) % 256) else .int .u8 (laid G x a k i)) = .int .u8 (laid G x a (k + 1) i) := by
  unfold laid byteOf
  by_cases h : i = a + k
  · subst h
    rw [if_pos rfl, if_pos (by omega), show a + k - a = k from by omega, pow256]
  · rw [if_neg h]
    by_cases h2 : a ≤ i ∧ i < a + k
    · rw [if_pos h2, if_pos (by omega)]
    · rw [if_neg h2, if_neg (by omega)]

end Go.Proofs.Ytekoogedhmhpgaa
