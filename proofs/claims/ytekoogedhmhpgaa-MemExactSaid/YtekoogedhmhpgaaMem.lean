/- The contracts of package mem's inner functions: at, lay, pick. -/
import Derived.Test.YtekoogedhmhpgaaWord
import Derived.Test.YtekoogedhmhpgaaBase
namespace Go.Proofs.Ytekoogedhmhpgaa
open Go.RowKit

theorem ret_slice2 {d a m k : Nat} {b : Bool} (h : k = m) : Ending.returned (.tuple #[.slice (some ⟨d, a, none⟩) k k, .bool b]) = .returned (.tuple #[.slice (some ⟨d, a, none⟩) m m, .bool b]) := by rw [h]

set_option maxHeartbeats 400000 in
set_option maxRecDepth 100000 in
theorem at_ok (g d n a m : Nat) (w : World) (hc : w.cell? ⟨g, 0, none⟩ = some (.slice (some ⟨d, 0, none⟩) n n)) (hn : n ≤ 1048576) (h0 : 1 ≤ m) (h1 : 4096 ≤ a) (h2 : a + m ≤ n) :
    Calls Try.prog 63 #[.pointer (some ⟨g, 0, none⟩), .int .u64 a, .int .i64 m] w fun e w' => e = .returned (.tuple #[.slice (some ⟨d, a, none⟩) m m, .bool true]) ∧ w = w' := by
  go_enter Try.func63, Try.ntmps63
  go_wp2
  go_ret2
  exact ⟨ret_slice2 (Nat.add_sub_cancel_left a m), rfl⟩

set_option maxHeartbeats 400000 in
set_option maxRecDepth 100000 in
theorem at_no (g d n : Nat) (a m : Int) (w : World) (hc : w.cell? ⟨g, 0, none⟩ = some (.slice (some ⟨d, 0, none⟩) n n)) (hn : n ≤ 1048576) (ha0 : 0 ≤ a) (ha1 : a < 18446744073709551616) (hm0 : -9223372036854775808 ≤ m) (hm1 : m < 9223372036854775808) (h : m < 0 ∨ a < 4096 ∨ n < a ∨ n < a + m) :
    Calls Try.prog 63 #[.pointer (some ⟨g, 0, none⟩), .int .u64 a, .int .i64 m] w fun e w' => e = .returned (.tuple #[.slice none 0 0, .bool false]) ∧ w = w' := by
  have H := Lib.hid h
  clear h
  go_enter Try.func63, Try.ntmps63
  go_wp2
  all_goals (have h := H.out)
  all_goals first | (exfalso; omega) | (go_ret2; exact ⟨rfl, rfl⟩)

set_option maxHeartbeats 400000 in
set_option maxRecDepth 100000 in
theorem pick_u8 (d a : Nat) (f : Nat → Int) (w : World) (hc : ∀ i, i < 1 → w.cell? ⟨d, a + i, none⟩ = some (.int .u8 (f i))) (hf : ∀ i, 0 ≤ f i ∧ f i ≤ 255) :
    Calls Try.prog 69 #[.slice (some ⟨d, a, none⟩) 1 1] w fun e w' => e = .returned (.int .u8 (le f 1)) ∧ w = w' := by
  have HB := Lib.hid (le_bd f hf)
  go_enter Try.func69, Try.ntmps69
  go_wp2
  go_loop [3, 7] (fun x i => ∃ k : Nat, ∃ y : Int, k ≤ 1 ∧ i = .int .i64 k ∧ x = .int .u64 y ∧ Hid (y = le f k)) (fun _ i => 1 - (intOf i).toNat)
  case atStart => exact ⟨0, 0, Nat.zero_le _, rfl, rfl, Lib.hid rfl⟩
  case round =>
    obtain ⟨k, y, hk, rfl, rfl, hy⟩ := hrel
    by_cases hlt : k < 1
    · have hck := hc k hlt
      obtain ⟨hfk0, hfk1⟩ := hf k
      have hp := Lib.hid (pick_step f hf k (by omega))
      clear hc hf
      go_wp2
      go_round
      case rel => exact ⟨k + 1, _, by omega, by go_num, rfl, Lib.hid (by rw [hy.out]; first | exact hp.out | (rw [show IntKind.u64.wrap (f k) = f k from by rw [IntKind.wrap_u64]; omega]; exact hp.out))⟩
      case measure => simp [intOf]; omega
    · obtain rfl : k = 1 := by omega
      have h1 := HB.out 1
      have hyo := hy.out
      have hd0 : 0 ≤ y := by omega
      have hd1 : y < 256 ^ 1 := by omega
      clear hyo h1 hc hf
      go_wp2
      go_ret
      refine ⟨ret_int ?_, rfl⟩
      have hyo := hy.out
      first | omega | (simp only [IntKind.wrap_u8', IntKind.wrap_u16, IntKind.wrap_u32', IntKind.wrap_u64]; omega)

set_option maxHeartbeats 400000 in
set_option maxRecDepth 100000 in
theorem pick_u16 (d a : Nat) (f : Nat → Int) (w : World) (hc : ∀ i, i < 2 → w.cell? ⟨d, a + i, none⟩ = some (.int .u8 (f i))) (hf : ∀ i, 0 ≤ f i ∧ f i ≤ 255) :
    Calls Try.prog 70 #[.slice (some ⟨d, a, none⟩) 2 2] w fun e w' => e = .returned (.int .u16 (le f 2)) ∧ w = w' := by
  have HB := Lib.hid (le_bd f hf)
  go_enter Try.func70, Try.ntmps70
  go_wp2
  go_loop [3, 7] (fun x i => ∃ k : Nat, ∃ y : Int, k ≤ 2 ∧ i = .int .i64 k ∧ x = .int .u64 y ∧ Hid (y = le f k)) (fun _ i => 2 - (intOf i).toNat)
  case atStart => exact ⟨0, 0, Nat.zero_le _, rfl, rfl, Lib.hid rfl⟩
  case round =>
    obtain ⟨k, y, hk, rfl, rfl, hy⟩ := hrel
    by_cases hlt : k < 2
    · have hck := hc k hlt
      obtain ⟨hfk0, hfk1⟩ := hf k
      have hp := Lib.hid (pick_step f hf k (by omega))
      clear hc hf
      go_wp2
      go_round
      case rel => exact ⟨k + 1, _, by omega, by go_num, rfl, Lib.hid (by rw [hy.out]; first | exact hp.out | (rw [show IntKind.u64.wrap (f k) = f k from by rw [IntKind.wrap_u64]; omega]; exact hp.out))⟩
      case measure => simp [intOf]; omega
    · obtain rfl : k = 2 := by omega
      have h1 := HB.out 2
      have hyo := hy.out
      have hd0 : 0 ≤ y := by omega
      have hd1 : y < 256 ^ 2 := by omega
      clear hyo h1 hc hf
      go_wp2
      go_ret
      refine ⟨ret_int ?_, rfl⟩
      have hyo := hy.out
      first | omega | (simp only [IntKind.wrap_u8', IntKind.wrap_u16, IntKind.wrap_u32', IntKind.wrap_u64]; omega)

set_option maxHeartbeats 400000 in
set_option maxRecDepth 100000 in
theorem pick_u32 (d a : Nat) (f : Nat → Int) (w : World) (hc : ∀ i, i < 4 → w.cell? ⟨d, a + i, none⟩ = some (.int .u8 (f i))) (hf : ∀ i, 0 ≤ f i ∧ f i ≤ 255) :
    Calls Try.prog 71 #[.slice (some ⟨d, a, none⟩) 4 4] w fun e w' => e = .returned (.int .u32 (le f 4)) ∧ w = w' := by
  have HB := Lib.hid (le_bd f hf)
  go_enter Try.func71, Try.ntmps71
  go_wp2
  go_loop [3, 7] (fun x i => ∃ k : Nat, ∃ y : Int, k ≤ 4 ∧ i = .int .i64 k ∧ x = .int .u64 y ∧ Hid (y = le f k)) (fun _ i => 4 - (intOf i).toNat)
  case atStart => exact ⟨0, 0, Nat.zero_le _, rfl, rfl, Lib.hid rfl⟩
  case round =>
    obtain ⟨k, y, hk, rfl, rfl, hy⟩ := hrel
    by_cases hlt : k < 4
    · have hck := hc k hlt
      obtain ⟨hfk0, hfk1⟩ := hf k
      have hp := Lib.hid (pick_step f hf k (by omega))
      clear hc hf
      go_wp2
      go_round
      case rel => exact ⟨k + 1, _, by omega, by go_num, rfl, Lib.hid (by rw [hy.out]; first | exact hp.out | (rw [show IntKind.u64.wrap (f k) = f k from by rw [IntKind.wrap_u64]; omega]; exact hp.out))⟩
      case measure => simp [intOf]; omega
    · obtain rfl : k = 4 := by omega
      have h1 := HB.out 4
      have hyo := hy.out
      have hd0 : 0 ≤ y := by omega
      have hd1 : y < 256 ^ 4 := by omega
      clear hyo h1 hc hf
      go_wp2
      go_ret
      refine ⟨ret_int ?_, rfl⟩
      have hyo := hy.out
      first | omega | (simp only [IntKind.wrap_u8', IntKind.wrap_u16, IntKind.wrap_u32', IntKind.wrap_u64]; omega)

set_option maxHeartbeats 400000 in
set_option maxRecDepth 100000 in
theorem pick_u64 (d a : Nat) (f : Nat → Int) (w : World) (hc : ∀ i, i < 8 → w.cell? ⟨d, a + i, none⟩ = some (.int .u8 (f i))) (hf : ∀ i, 0 ≤ f i ∧ f i ≤ 255) :
    Calls Try.prog 72 #[.slice (some ⟨d, a, none⟩) 8 8] w fun e w' => e = .returned (.int .u64 (le f 8)) ∧ w = w' := by
  have HB := Lib.hid (le_bd f hf)
  go_enter Try.func72, Try.ntmps72
  go_wp2
  go_loop [3, 7] (fun x i => ∃ k : Nat, ∃ y : Int, k ≤ 8 ∧ i = .int .i64 k ∧ x = .int .u64 y ∧ Hid (y = le f k)) (fun _ i => 8 - (intOf i).toNat)
  case atStart => exact ⟨0, 0, Nat.zero_le _, rfl, rfl, Lib.hid rfl⟩
  case round =>
    obtain ⟨k, y, hk, rfl, rfl, hy⟩ := hrel
    by_cases hlt : k < 8
    · have hck := hc k hlt
      obtain ⟨hfk0, hfk1⟩ := hf k
      have hp := Lib.hid (pick_step f hf k (by omega))
      clear hc hf
      go_wp2
      go_round
      case rel => exact ⟨k + 1, _, by omega, by go_num, rfl, Lib.hid (by rw [hy.out]; first | exact hp.out | (rw [show IntKind.u64.wrap (f k) = f k from by rw [IntKind.wrap_u64]; omega]; exact hp.out))⟩
      case measure => simp [intOf]; omega
    · obtain rfl : k = 8 := by omega
      have h1 := HB.out 8
      have hyo := hy.out
      have hd0 : 0 ≤ y := by omega
      have hd1 : y < 256 ^ 8 := by omega
      clear hyo h1 hc hf
      go_wp2
      go_ret
      refine ⟨ret_int ?_, rfl⟩
      have hyo := hy.out
      first | omega | (simp only [IntKind.wrap_u8', IntKind.wrap_u16, IntKind.wrap_u32', IntKind.wrap_u64]; omega)

set_option maxHeartbeats 400000 in
set_option maxRecDepth 100000 in
theorem lay_u8 (d a n : Nat) (x : Int) (G : Nat → Int) (w : World) (hr : w.rowIs d 5 n (fun i => .int .u8 (G i))) (ha : a + 1 ≤ n) (_hx0 : 0 ≤ x) (_hx1 : x < 256) :
    Calls Try.prog 64 #[.slice (some ⟨d, a, none⟩) 1 1, .int .u8 x] w fun e w' => e = .returned (.tuple #[]) ∧ w'.rowIs d 5 n (fun i => .int .u8 (laid G x a 1 i)) ∧ Keep (· = d) w w' := by
  go_enter Try.func64, Try.ntmps64
  go_wp2
  go_loopw [7] (fun i wr => ∃ k : Nat, k ≤ 1 ∧ i = .int .i64 k ∧ wr.rowIs d 5 n (fun i => .int .u8 (laid G x a k i)) ∧ Keep (· = d) w wr) (fun i _ => 1 - (intOf i).toNat)
  case atStart => exact ⟨0, Nat.zero_le _, rfl, hr.congr (fun i _ => by rw [laid_0]), Keep.refl _ _⟩
  case round =>
    obtain ⟨k, hk, rfl, hrw, hg⟩ := hrel
    by_cases hlt : k < 1
    · have hck := hrw.cell (i := a + k) (by omega)
      have hfk := hrw.frozen (a + k)
      have H1 := Lib.hid hrw
      have H2 := Lib.hid hg
      clear hrw hg hr
      go_wp2
      go_roundw
      case rel =>
        refine ⟨k + 1, by omega, by go_num, (H1.out.set (a + k) _).congr (fun i hi => ?_), ?_⟩
        · rw [lay_step]
        · exact H2.out.setCell (fun _ => rfl) _
      case measure => simp [intOf]; omega
    · obtain rfl : k = 1 := by omega
      go_wp2
      go_end0
      exact ⟨rfl, hrw, hg⟩

set_option maxHeartbeats 400000 in
set_option maxRecDepth 100000 in
theorem lay_u16 (d a n : Nat) (x : Int) (G : Nat → Int) (w : World) (hr : w.rowIs d 5 n (fun i => .int .u8 (G i))) (ha : a + 2 ≤ n) (_hx0 : 0 ≤ x) (_hx1 : x < 65536) :
    Calls Try.prog 65 #[.slice (some ⟨d, a, none⟩) 2 2, .int .u16 x] w fun e w' => e = .returned (.tuple #[]) ∧ w'.rowIs d 5 n (fun i => .int .u8 (laid G x a 2 i)) ∧ Keep (· = d) w w' := by
  go_enter Try.func65, Try.ntmps65
  go_wp2
  go_loopw [7] (fun i wr => ∃ k : Nat, k ≤ 2 ∧ i = .int .i64 k ∧ wr.rowIs d 5 n (fun i => .int .u8 (laid G x a k i)) ∧ Keep (· = d) w wr) (fun i _ => 2 - (intOf i).toNat)
  case atStart => exact ⟨0, Nat.zero_le _, rfl, hr.congr (fun i _ => by rw [laid_0]), Keep.refl _ _⟩
  case round =>
    obtain ⟨k, hk, rfl, hrw, hg⟩ := hrel
    by_cases hlt : k < 2
    · have hck := hrw.cell (i := a + k) (by omega)
      have hfk := hrw.frozen (a + k)
      have H1 := Lib.hid hrw
      have H2 := Lib.hid hg
      clear hrw hg hr
      go_wp2
      go_roundw
      case rel =>
        refine ⟨k + 1, by omega, by go_num, (H1.out.set (a + k) _).congr (fun i hi => ?_), ?_⟩
        · rw [lay_step]
        · exact H2.out.setCell (fun _ => rfl) _
      case measure => simp [intOf]; omega
    · obtain rfl : k = 2 := by omega
      go_wp2
      go_end0
      exact ⟨rfl, hrw, hg⟩

set_option maxHeartbeats 400000 in
set_option maxRecDepth 100000 in
theorem lay_u32 (d a n : Nat) (x : Int) (G : Nat → Int) (w : World) (hr : w.rowIs d 5 n (fun i => .int .u8 (G i))) (ha : a + 4 ≤ n) (_hx0 : 0 ≤ x) (_hx1 : x < 4294967296) :
    Calls Try.prog 66 #[.slice (some ⟨d, a, none⟩) 4 4, .int .u32 x] w fun e w' => e = .returned (.tuple #[]) ∧ w'.rowIs d 5 n (fun i => .int .u8 (laid G x a 4 i)) ∧ Keep (· = d) w w' := by
  go_enter Try.func66, Try.ntmps66
  go_wp2
  go_loopw [7] (fun i wr => ∃ k : Nat, k ≤ 4 ∧ i = .int .i64 k ∧ wr.rowIs d 5 n (fun i => .int .u8 (laid G x a k i)) ∧ Keep (· = d) w wr) (fun i _ => 4 - (intOf i).toNat)
  case atStart => exact ⟨0, Nat.zero_le _, rfl, hr.congr (fun i _ => by rw [laid_0]), Keep.refl _ _⟩
  case round =>
    obtain ⟨k, hk, rfl, hrw, hg⟩ := hrel
    by_cases hlt : k < 4
    · have hck := hrw.cell (i := a + k) (by omega)
      have hfk := hrw.frozen (a + k)
      have H1 := Lib.hid hrw
      have H2 := Lib.hid hg
      clear hrw hg hr
      go_wp2
      go_roundw
      case rel =>
        refine ⟨k + 1, by omega, by go_num, (H1.out.set (a + k) _).congr (fun i hi => ?_), ?_⟩
        · rw [lay_step]
        · exact H2.out.setCell (fun _ => rfl) _
      case measure => simp [intOf]; omega
    · obtain rfl : k = 4 := by omega
      go_wp2
      go_end0
      exact ⟨rfl, hrw, hg⟩

set_option maxHeartbeats 400000 in
set_option maxRecDepth 100000 in
theorem lay_u64 (d a n : Nat) (x : Int) (G : Nat → Int) (w : World) (hr : w.rowIs d 5 n (fun i => .int .u8 (G i))) (ha : a + 8 ≤ n) :
    Calls Try.prog 67 #[.slice (some ⟨d, a, none⟩) 8 8, .int .u64 x] w fun e w' => e = .returned (.tuple #[]) ∧ w'.rowIs d 5 n (fun i => .int .u8 (laid G x a 8 i)) ∧ Keep (· = d) w w' := by
  go_enter Try.func67, Try.ntmps67
  go_wp2
  go_loopw [7] (fun i wr => ∃ k : Nat, k ≤ 8 ∧ i = .int .i64 k ∧ wr.rowIs d 5 n (fun i => .int .u8 (laid G x a k i)) ∧ Keep (· = d) w wr) (fun i _ => 8 - (intOf i).toNat)
  case atStart => exact ⟨0, Nat.zero_le _, rfl, hr.congr (fun i _ => by rw [laid_0]), Keep.refl _ _⟩
  case round =>
    obtain ⟨k, hk, rfl, hrw, hg⟩ := hrel
    by_cases hlt : k < 8
    · have hck := hrw.cell (i := a + k) (by omega)
      have hfk := hrw.frozen (a + k)
      have H1 := Lib.hid hrw
      have H2 := Lib.hid hg
      clear hrw hg hr
      go_wp2
      go_roundw
      case rel =>
        refine ⟨k + 1, by omega, by go_num, (H1.out.set (a + k) _).congr (fun i hi => ?_), ?_⟩
        · rw [lay_step]
        · exact H2.out.setCell (fun _ => rfl) _
      case measure => simp [intOf]; omega
    · obtain rfl : k = 8 := by omega
      go_wp2
      go_end0
      exact ⟨rfl, hrw, hg⟩

end Go.Proofs.Ytekoogedhmhpgaa
