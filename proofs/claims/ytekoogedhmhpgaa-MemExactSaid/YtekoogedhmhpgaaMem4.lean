/- Load and Store of any kind that is a word's. -/
import Derived.Test.YtekoogedhmhpgaaMem3
namespace Go.Proofs.Ytekoogedhmhpgaa
open Go.RowKit

theorem nbytes_of {k : Int} (h : 1 ≤ k ∧ k ≤ 11) : nbytes k = 1 ∨ nbytes k = 2 ∨ nbytes k = 4 ∨ nbytes k = 8 := by
  rcases kinds_of h with rfl | rfl | rfl | rfl | rfl | rfl | rfl | rfl | rfl | rfl | rfl <;> decide

theorem load_any (g d n : Nat) (a k : Int) (G : Nat → Int) (w : World) (h : MemAt w g d n G) (hk : 1 ≤ k ∧ k ≤ 11) (h1 : 4096 ≤ a) (h2 : a + nbytes k ≤ n) :
    Calls Try.prog 16 #[.pointer (some ⟨g, 0, none⟩), .int .u64 a, .int .i64 k] w fun e w' => e = .returned (.tuple #[.int .u64 (canon k (le (fun i => G (a.toNat + i)) (nbytes k).toNat)), .int .i64 0]) ∧ w = w' := by
  obtain ⟨b, rfl⟩ : ∃ b : Nat, a = b := ⟨a.toNat, by omega⟩
  rcases nbytes_of hk with e | e | e | e <;> rw [e] at h2 ⊢ <;> rw [Int.toNat_natCast]
  · exact load_ok1 g d n b k G w h e (by omega) (by omega)
  · exact load_ok2 g d n b k G w h e (by omega) (by omega)
  · exact load_ok4 g d n b k G w h e (by omega) (by omega)
  · exact load_ok8 g d n b k G w h e (by omega) (by omega)
theorem store_any (g d n : Nat) (a k x : Int) (G : Nat → Int) (w : World) (h : MemAt w g d n G) (hk : 1 ≤ k ∧ k ≤ 11) (hx0 : 0 ≤ x) (hx1 : x < 18446744073709551616) (hx : isWord k x = true) (h1 : 4096 ≤ a) (h2 : a + nbytes k ≤ n) :
    Calls Try.prog 14 #[.pointer (some ⟨g, 0, none⟩), .int .u64 a, .int .i64 k, .int .u64 x] w fun e w' => e = .returned (.int .i64 0) ∧ MemAt w' g d n (laid G x a.toNat (nbytes k).toNat) ∧ Keep (· = d) w w' := by
  obtain ⟨b, rfl⟩ : ∃ b : Nat, a = b := ⟨a.toNat, by omega⟩
  rcases nbytes_of hk with e | e | e | e <;> rw [e] at h2 ⊢ <;> rw [Int.toNat_natCast]
  · exact store_ok1 g d n b k x G w h e hx0 hx1 hx (by omega) (by omega)
  · exact store_ok2 g d n b k x G w h e hx0 hx1 hx (by omega) (by omega)
  · exact store_ok4 g d n b k x G w h e hx0 hx1 hx (by omega) (by omega)
  · exact store_ok8 g d n b k x G w h e hx0 hx1 hx (by omega) (by omega)

/-- The number that the bytes of a word are. -/
theorem le_laid (G : Nat → Int) (x : Int) (a m : Nat) : le (fun i => laid G x a m (a + i)) m = x % 256 ^ m := by
  rw [← le_byteOf]
  exact le_congr _ _ _ (fun i hi => by unfold laid; rw [if_pos (by omega), show a + i - a = i from by omega])
theorem le_apart (G : Nat → Int) (x : Int) (a m b n : Nat) (h : a + m ≤ b ∨ b + n ≤ a) : le (fun i => laid G x a m (b + i)) n = le (fun i => G (b + i)) n :=
  le_congr _ _ _ (fun i hi => by unfold laid; rw [if_neg (by omega)])
theorem canon_mod {k x : Int} (hk : 1 ≤ k ∧ k ≤ 11) : canon k (x % 256 ^ (nbytes k).toNat) = canon k (x % 18446744073709551616) := by
  rcases kinds_of hk with rfl | rfl | rfl | rfl | rfl | rfl | rfl | rfl | rfl | rfl | rfl <;> simp [canon, nbytes] <;> omega
theorem canon_bd (k x : Int) (h0 : 0 ≤ x) (h1 : x < 18446744073709551616) : 0 ≤ canon k x ∧ canon k x < 18446744073709551616 := by
  unfold canon
  repeat' split
  all_goals omega
theorem canon_canon (k x : Int) : canon k (canon k x) = canon k x := by
  by_cases hk : 1 ≤ k ∧ k ≤ 11
  · rcases kinds_of hk with rfl | rfl | rfl | rfl | rfl | rfl | rfl | rfl | rfl | rfl | rfl <;> simp [canon] <;> omega
  · rw [canon_none hk, canon_none hk]
theorem canon_isWord {k x : Int} (hk : 1 ≤ k ∧ k ≤ 11) : isWord k (canon k x) = true := by
  simp [isWord, hk, canon_canon k x]
theorem isWord_kind {k x : Int} (h : isWord k x = true) : (1 ≤ k ∧ k ≤ 11) ∧ canon k x = x := by simpa [isWord] using h

end Go.Proofs.Ytekoogedhmhpgaa
