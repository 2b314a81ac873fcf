/- The contracts of the reference's memory: May, New, Has, Load, Store, Put. -/
import Derived.Test.YtekoogedhmhpgaaMem4
import Derived.RegionTactic
import Derived.ChangeAlike
namespace Go.Proofs.Ytekoogedhmhpgaa
open Go.RowKit

set_option maxHeartbeats 400000 in
theorem may_ok (z : Int) (w : World) : Calls Try.prog 18 #[.int .i64 z] w fun e w' => e = .returned (.bool (decide (8192 ≤ z ∧ z ≤ 1048576))) ∧ w = w' := by
  go_enter Try.func18, Try.ntmps18
  go_wp2
  all_goals
    go_ret
    exact ⟨ret_bool (by rw [Bool.eq_iff_iff]; simp; try omega), rfl⟩

set_option maxHeartbeats 400000 in
set_option maxRecDepth 100000 in
theorem rnew_ok (z : Int) (w : World) (h0 : 8192 ≤ z) (h1 : z ≤ 1048576) :
    Calls Try.prog 20 #[.int .i64 z] w fun e w' => ∃ g d, e = .returned (.pointer (some ⟨g, 0, none⟩)) ∧ MemAt w' g d z.toNat (fun _ => 0) ∧ w.heap.size ≤ g ∧ w.heap.size ≤ d ∧ Below w.heap.size w w' := by
  obtain ⟨n, rfl⟩ : ∃ n : Nat, z = n := ⟨z.toNat, by omega⟩
  have hm := Lib.hid (memAt_new w 51 n (by omega) (by omega))
  have hmk := run_make_row' (P := Try.prog) 30 5 (.int .u8 0) 1 Try.underlying30 Try.infoU8 rfl .i64 .i64 n (by omega) (by omega)
  go_enter Try.func20, Try.ntmps20
  go_wp2
  go_ret
  exact ⟨_, _, rfl, hm.out, by omega, Nat.le_refl _, ((Below.refl _ _).alloc (Nat.le_refl _) _).alloc (by simp) _⟩

set_option maxHeartbeats 400000 in
set_option maxRecDepth 100000 in
theorem has_yes (g d n : Nat) (a m : Int) (G : Nat → Int) (w : World) (h : MemAt w g d n G) (ha1 : a < 18446744073709551616) (ha0 : 0 ≤ a) (hm1 : m < 9223372036854775808) (hm : m = 0 ∨ (0 < m ∧ 4096 ≤ a ∧ a + m ≤ n)) :
    Calls Try.prog 76 #[.pointer (some ⟨g, 0, none⟩), .int .u64 a, .int .i64 m] w fun e w' => e = .returned (.bool true) ∧ w = w' := by
  have hc := h.cell
  have hn := h.hi
  have hm' := Lib.hid hm
  clear h hm
  go_enter Try.func76, Try.ntmps76
  go_wp2
  all_goals
    go_ret
    exact ⟨ret_bool (by have := hm'.out; first | rfl | (rw [Bool.eq_iff_iff]; simp; try omega)), rfl⟩

set_option maxHeartbeats 400000 in
set_option maxRecDepth 100000 in
theorem has_no (g d n : Nat) (a m : Int) (G : Nat → Int) (w : World) (h : MemAt w g d n G) (ha1 : a < 18446744073709551616) (ha0 : 0 ≤ a) (hm0 : -9223372036854775808 ≤ m) (hm1 : m < 9223372036854775808) (hm : m < 0 ∨ (0 < m ∧ (a < 4096 ∨ n < a + m))) :
    Calls Try.prog 76 #[.pointer (some ⟨g, 0, none⟩), .int .u64 a, .int .i64 m] w fun e w' => e = .returned (.bool false) ∧ w = w' := by
  have hc := h.cell
  have hn := h.hi
  have hm' := Lib.hid hm
  clear h hm
  go_enter Try.func76, Try.ntmps76
  go_wp2
  all_goals
    go_ret
    exact ⟨ret_bool (by have := hm'.out; first | rfl | (rw [Bool.eq_iff_iff]; simp; try omega)), rfl⟩

theorem ref1_Bytes_of (k b : Int) (w : World) (h : nbytes k = b) : Calls Try.prog 15 #[.int .i64 k] w fun e w' => e = .returned (.int .i64 b) ∧ w = w' := h ▸ ref1_Bytes k w

theorem le_cons (f : Nat → Int) (k : Nat) : le f (k + 1) = f 0 + 256 * le (fun j => f (j + 1)) k := by
  induction k with
  | zero => simp [le]
  | succ k ih =>
    rw [le, ih, le, Int.mul_add, Int.pow_succ]
    have : f (k + 1) * (256 ^ k * 256) = 256 * (f (k + 1) * 256 ^ k) := by rw [← Int.mul_assoc, Int.mul_comm]
    omega
theorem down_step (f : Nat → Int) (hf : ∀ i, 0 ≤ f i ∧ f i ≤ 255) (k : Nat) (hk : k < 8) : bits .or .u64 (IntKind.u64.wrap (le (fun j => f (j + 1)) k * 256)) (f 0) = le f (k + 1) := by
  have hb := le_bd (fun j => f (j + 1)) (fun i => hf (i + 1)) k
  have hb1 := le_bd f hf (k + 1)
  have hp := pow_le8 (k + 1) (by omega)
  have h0 := hf 0
  have hs := le_cons f k
  have e : IntKind.u64.wrap (le (fun j => f (j + 1)) k * 256) = le (fun j => f (j + 1)) k * 256 := by rw [IntKind.wrap_u64]; omega
  rw [e, u64_or _ _ (by omega) (by omega) h0.1 (by omega), nat_join 8]
  · omega
  · have : (le (fun j => f (j + 1)) k * 256).toNat = (le (fun j => f (j + 1)) k).toNat * 2 ^ 8 := by omega
    rw [this, Nat.mul_mod_left]
  · omega

set_option maxHeartbeats 400000 in
set_option maxRecDepth 100000 in
theorem rload_ok (g d n a m : Nat) (k : Int) (G : Nat → Int) (w : World) (h : MemAt w g d n G) (hk : nbytes k = m) (hm : 1 ≤ m ∧ m ≤ 8) (h1 : 4096 ≤ a) (h2 : a + m ≤ n) :
    Calls Try.prog 73 #[.pointer (some ⟨g, 0, none⟩), .int .u64 a, .int .i64 k] w fun e w' => e = .returned (.tuple #[.int .u64 (canon k (le (fun i => G (a + i)) m)), .bool true]) ∧ w = w' := by
  have hc := h.cell
  have hrow := Lib.hid h.row
  have hb := h.bytes
  have hn := h.hi
  have H := Lib.hid h
  have hle := le_bd (fun i => G (a + i)) (fun i => hb (a + i)) m
  have hp8 := pow_le8 m hm.2
  have hle0 : 0 ≤ le (fun i => G (a + i)) m := hle.1
  have hle1 : le (fun i => G (a + i)) m < 18446744073709551616 := by have := hle.2; omega
  have hG := Lib.hid hb
  have hk' := Lib.hid hk
  obtain ⟨hm1, hm2⟩ := hm
  clear h hk hb hle hp8
  go_enter Try.func73, Try.ntmps73
  go_wp2_with (first | (go_at_call 15; refine (ref1_Bytes_of _ _ _ hk'.out).mono ?_; rintro e w' ⟨rfl, rfl⟩) | (go_at_call 76; refine (has_yes g d n _ _ G _ H.out (by omega) (by omega) (by omega) (Or.inr ⟨by omega, by omega, by omega⟩)).mono ?_; rintro e w' ⟨rfl, rfl⟩))
  go_loop [9, 10] (fun x i => ∃ i' : Int, ∃ y : Int, -1 ≤ i' ∧ i' < m ∧ i = .int .i64 i' ∧ x = .int .u64 y ∧ Hid (y = le (fun j => G (a + (i' + 1).toNat + j)) (m - (i' + 1).toNat))) (fun _ i => (intOf i + 1).toNat)
  case atStart => exact ⟨(m : Int) - 1, 0, by omega, by omega, rfl, rfl, Lib.hid (by rw [show ((m : Int) - 1 + 1).toNat = m from by omega, Nat.sub_self]; rfl)⟩
  case round =>
    obtain ⟨i', y, hi0, hi1, rfl, rfl, hy⟩ := hrel
    by_cases hlt : 0 ≤ i'
    · obtain ⟨r, rfl⟩ : ∃ r : Nat, i' = r := ⟨i'.toNat, by omega⟩
      have hck := hrow.out.cell (i := a + r) (by omega)
      obtain ⟨hf0, hf1⟩ := hG.out (a + r)
      have hyo := hy.out
      rw [show ((r : Int) + 1).toNat = r + 1 from by omega] at hyo
      have e := down_step (fun j => G (a + r + j)) (fun i => hG.out _) (m - (r + 1)) (by omega)
      rw [show (fun j => G (a + r + (j + 1))) = fun j => G (a + (r + 1) + j) from by funext j; exact congrArg G (by omega), ← hyo, show m - (r + 1) + 1 = m - r from by omega] at e
      have E := Lib.hid e
      clear e hyo
      go_wp2
      go_round
      case rel => exact ⟨(r : Int) - 1, _, by omega, by omega, rfl, rfl, Lib.hid (by rw [show ((r : Int) - 1 + 1).toNat = r from by omega]; exact E.out)⟩
      case measure => simp [intOf]
    · obtain rfl : i' = -1 := by omega
      have hyo := hy.out
      rw [show ((-1 : Int) + 1).toNat = 0 from rfl, Nat.add_zero, Nat.sub_zero] at hyo
      subst hyo
      go_wp2_with (go_at_call 13; refine (ref1_Canon _ _ _ hle0 hle1).mono ?_; rintro e w' ⟨rfl, rfl⟩)
      go_ret2
      exact ⟨rfl, rfl⟩

set_option maxHeartbeats 400000 in
set_option maxRecDepth 100000 in
theorem rload_no (g d n : Nat) (a k m : Int) (G : Nat → Int) (w : World) (h : MemAt w g d n G) (hk : nbytes k = m) (hm : m = 1 ∨ m = 2 ∨ m = 4 ∨ m = 8) (ha0 : 0 ≤ a) (ha1 : a < 18446744073709551616) (hf : a < 4096 ∨ n < a + m) :
    Calls Try.prog 73 #[.pointer (some ⟨g, 0, none⟩), .int .u64 a, .int .i64 k] w fun e w' => e = .returned (.tuple #[.int .u64 0, .bool false]) ∧ w = w' := by
  have H := Lib.hid h
  have hk' := Lib.hid hk
  have hm' := Lib.hid hm
  have hf' := Lib.hid hf
  clear h hk hm hf
  go_enter Try.func73, Try.ntmps73
  go_wp2_with (first | (go_at_call 15; refine (ref1_Bytes_of _ _ _ hk'.out).mono ?_; rintro e w' ⟨rfl, rfl⟩) | (go_at_call 76; refine (has_no g d n _ _ G _ H.out ha1 ha0 (by have := hm'.out; omega) (by have := hm'.out; omega) (Or.inr ⟨by have := hm'.out; omega, hf'.out⟩)).mono ?_; rintro e w' ⟨rfl, rfl⟩))
  go_ret2
  exact ⟨rfl, rfl⟩

set_option maxHeartbeats 400000 in
set_option maxRecDepth 100000 in
theorem rstore_no (g d n : Nat) (a k m x : Int) (G : Nat → Int) (w : World) (h : MemAt w g d n G) (hk : nbytes k = m) (hm : m = 1 ∨ m = 2 ∨ m = 4 ∨ m = 8) (ha0 : 0 ≤ a) (ha1 : a < 18446744073709551616) (hf : a < 4096 ∨ n < a + m) :
    Calls Try.prog 75 #[.pointer (some ⟨g, 0, none⟩), .int .u64 a, .int .i64 k, .int .u64 x] w fun e w' => e = .returned (.bool false) ∧ w = w' := by
  have H := Lib.hid h
  have hk' := Lib.hid hk
  have hm' := Lib.hid hm
  have hf' := Lib.hid hf
  clear h hk hm hf
  go_enter Try.func75, Try.ntmps75
  go_wp2_with (first | (go_at_call 15; refine (ref1_Bytes_of _ _ _ hk'.out).mono ?_; rintro e w' ⟨rfl, rfl⟩) | (go_at_call 76; refine (has_no g d n _ _ G _ H.out ha1 ha0 (by have := hm'.out; omega) (by have := hm'.out; omega) (Or.inr ⟨by have := hm'.out; omega, hf'.out⟩)).mono ?_; rintro e w' ⟨rfl, rfl⟩))
  go_ret
  exact ⟨rfl, rfl⟩

set_option maxHeartbeats 400000 in
set_option maxRecDepth 100000 in
theorem rstore_ok (g d n a m : Nat) (k x : Int) (G : Nat → Int) (w : World) (h : MemAt w g d n G) (hk : nbytes k = m) (hm : 1 ≤ m ∧ m ≤ 8) (h1 : 4096 ≤ a) (h2 : a + m ≤ n) :
    Calls Try.prog 75 #[.pointer (some ⟨g, 0, none⟩), .int .u64 a, .int .i64 k, .int .u64 x] w fun e w' => e = .returned (.bool true) ∧ MemAt w' g d n (laid G x a m) ∧ Keep (· = d) w w' := by
  have hn := h.hi
  have H := Lib.hid h
  have hk' := Lib.hid hk
  obtain ⟨hm1, hm2⟩ := hm
  clear h hk
  go_enter Try.func75, Try.ntmps75
  go_wp2_with (first | (go_at_call 15; refine (ref1_Bytes_of _ _ _ hk'.out).mono ?_; rintro e w' ⟨rfl, rfl⟩) | (go_at_call 76; refine (has_yes g d n _ _ G _ H.out (by omega) (by omega) (by omega) (Or.inr ⟨by omega, by omega, by omega⟩)).mono ?_; rintro e w' ⟨rfl, rfl⟩))
  go_loopw [10] (fun i wr => ∃ k : Nat, k ≤ m ∧ i = .int .i64 k ∧ Hid (MemAt wr g d n (laid G x a k)) ∧ Hid (Keep (· = d) w wr)) (fun i _ => m - (intOf i).toNat)
  case atStart => exact ⟨0, Nat.zero_le _, rfl, Lib.hid (by rw [show laid G x a 0 = G from funext fun i => laid_0 G x a i]; exact H.out), Lib.hid (Keep.refl _ _)⟩
  case round =>
    obtain ⟨k', hk1, rfl, hM, hK⟩ := hrel
    by_cases hlt : k' < m
    · have hc := hM.out.cell
      have hck := hM.out.row.cell (i := a + k') (by omega)
      have hfk := hM.out.row.frozen (a + k')
      go_wp2
      go_roundw
      case rel =>
        have hR := (hM.out.row.set (a + k') (.int .u8 (x / 2 ^ (8 * k') % 256))).congr (fun i _ => lay_step G x a k' i)
        have hS := hK.out.setCell (a := ⟨d, a + k', none⟩) (fun _ => rfl) (.int .u8 (x / 2 ^ (8 * k') % 256))
        have hS' := (Keep.refl (· = d) wr).setCell (a := ⟨d, a + k', none⟩) (fun _ => rfl) (.int .u8 (x / 2 ^ (8 * k') % 256))
        exact ⟨k' + 1, by omega, by go_num, Lib.hid ⟨hM.out.ptr.imp fun _ p => hS'.row p hM.out.ne, hR, hM.out.ne, hM.out.lo, hM.out.hi, laid_bytes H.out.bytes _ _ _⟩, Lib.hid hS⟩
      case measure => simp [intOf]; omega
    · obtain rfl : k' = m := by omega
      go_wp2
      go_ret
      exact ⟨rfl, hM.out, hK.out⟩

end Go.Proofs.Ytekoogedhmhpgaa
