/- The contracts of package mem's Load, Store, New, Size over a memory that stands in two blocks. -/
import Derived.Test.YtekoogedhmhpgaaMem
namespace Go.Proofs.Ytekoogedhmhpgaa
open Go.RowKit

/-- A memory: block g leads to the bytes' own block d. -/
structure MemAt (w : World) (g d n : Nat) (F : Nat → Int) : Prop where
  ptr : ∃ T, w.rowIs g T 1 (fun _ => .slice (some ⟨d, 0, none⟩) n n)
  row : w.rowIs d 5 n (fun i => .int .u8 (F i))
  ne : g ≠ d
  lo : 8192 ≤ n
  hi : n ≤ 1048576
  bytes : ∀ i, 0 ≤ F i ∧ F i ≤ 255

theorem MemAt.keep {w w' : World} {S : Nat → Prop} {g d n : Nat} {F : Nat → Int} (h : MemAt w g d n F) (k : Keep S w w') (hg : ¬ S g) (hd : ¬ S d) : MemAt w' g d n F :=
  ⟨h.ptr.imp fun _ h => k.row h hg, k.row h.row hd, h.ne, h.lo, h.hi, h.bytes⟩
theorem laid_bytes {F : Nat → Int} (h : ∀ i, 0 ≤ F i ∧ F i ≤ 255) (x : Int) (a m : Nat) : ∀ i, 0 ≤ laid F x a m i ∧ laid F x a m i ≤ 255 := by
  intro i
  unfold laid
  split
  · exact byteOf_bd _ _
  · exact h i
theorem MemAt.lay {w w' : World} {g d n m a : Nat} {F : Nat → Int} {x : Int} (h : MemAt w g d n F) (hr : w'.rowIs d 5 n (fun i => .int .u8 (laid F x a m i))) (k : Keep (· = d) w w') : MemAt w' g d n (laid F x a m) :=
  ⟨h.ptr.imp fun _ p => k.row p h.ne, hr, h.ne, h.lo, h.hi, laid_bytes h.bytes _ _ _⟩
theorem MemAt.cell {w : World} {g d n : Nat} {F : Nat → Int} (h : MemAt w g d n F) : w.cell? ⟨g, 0, none⟩ = some (.slice (some ⟨d, 0, none⟩) n n) := by
  obtain ⟨_, p⟩ := h.ptr
  exact p.cell (by omega)
theorem MemAt.lt {w : World} {g d n : Nat} {F : Nat → Int} (h : MemAt w g d n F) : g < w.heap.size := by
  obtain ⟨_, p⟩ := h.ptr
  exact p.lt

theorem word_Bytes_of (k b : Int) (w : World) (h : nbytes k = b) : Calls Try.prog 61 #[.int .i64 k] w fun e w' => e = .returned (.int .i64 b) ∧ w = w' := h ▸ word_Bytes k w
theorem word_Is_of (k x : Int) (b : Bool) (w : World) (h0 : 0 ≤ x) (h1 : x < 18446744073709551616) (h : isWord k x = b) : Calls Try.prog 62 #[.int .i64 k, .int .u64 x] w fun e w' => e = .returned (.bool b) ∧ w = w' := h ▸ word_Is k x w h0 h1
theorem canon_8 {k x : Int} (h : nbytes k = 8) : canon k x = x := by
  by_cases hk : 1 ≤ k ∧ k ≤ 11
  · rcases kinds_of hk with rfl | rfl | rfl | rfl | rfl | rfl | rfl | rfl | rfl | rfl | rfl <;> first | rfl | (exact absurd h (by decide))
  · rw [nbytes_none hk] at h; omega
theorem lay_mod (F : Nat → Int) (x : Int) (a m : Nat) : (fun i => laid F (x % 256 ^ m) a m i) = laid F x a m := by
  funext i
  unfold laid
  split
  · rename_i h
    unfold byteOf
    obtain ⟨j, hj⟩ : ∃ j, i - a = j := ⟨_, rfl⟩
    rw [hj]
    have hjm : j < m := by omega
    have hp : (0 : Int) < 256 ^ j := Int.pow_pos (by omega)
    obtain ⟨q, rfl⟩ : ∃ q, m = j + 1 + q := ⟨m - (j + 1), by omega⟩
    have e : (256 : Int) ^ (j + 1 + q) = 256 ^ j * (256 * 256 ^ q) := by rw [Int.pow_add, Int.pow_succ, Int.mul_assoc]
    rw [e]
    have h1 := Int.emod_add_mul_ediv x (256 ^ j * (256 * 256 ^ q))
    generalize x % (256 ^ j * (256 * 256 ^ q)) = r at *
    have h2 : x / 256 ^ j = r / 256 ^ j + 256 * (256 ^ q * (x / (256 ^ j * (256 * 256 ^ q)))) := by
      conv => lhs; rw [← h1]
      rw [Int.mul_assoc, Int.add_mul_ediv_left _ _ (by omega), Int.mul_assoc]
    rw [h2, Int.add_mul_emod_self_left]
  · rfl
theorem canon_mod1 {k x : Int} (h : nbytes k = 1) : canon k (x % 256) = canon k x := by
  by_cases hk : 1 ≤ k ∧ k ≤ 11
  · rcases kinds_of hk with rfl | rfl | rfl | rfl | rfl | rfl | rfl | rfl | rfl | rfl | rfl <;> first | (exact absurd h (by decide)) | (simp [canon]; try omega)
  · rw [nbytes_none hk] at h; omega

set_option maxHeartbeats 400000 in
set_option maxRecDepth 100000 in
theorem load_ok1 (g d n a : Nat) (k : Int) (G : Nat → Int) (w : World) (h : MemAt w g d n G) (hk : nbytes k = 1) (h1 : 4096 ≤ a) (h2 : a + 1 ≤ n) :
    Calls Try.prog 16 #[.pointer (some ⟨g, 0, none⟩), .int .u64 a, .int .i64 k] w fun e w' => e = .returned (.tuple #[.int .u64 (canon k (le (fun i => G (a + i)) 1)), .int .i64 0]) ∧ w = w' := by
  have hc := h.cell
  have hrow := Lib.hid h.row
  have hb := h.bytes
  have hn := h.hi
  have hle := le_bd (fun i => G (a + i)) (fun i => hb (a + i)) 1
  have hle0 : 0 ≤ le (fun i => G (a + i)) 1 := hle.1
  have hle1 : le (fun i => G (a + i)) 1 < 18446744073709551616 := by have := hle.2; omega
  have hG := Lib.hid (fun i => hb (a + i))
  have hk' := Lib.hid hk
  clear h hk hb hle
  go_enter Try.func16, Try.ntmps16
  go_wp2_with (first | (go_at_call 61; refine (word_Bytes_of _ _ _ hk'.out).mono ?_; rintro e w' ⟨rfl, rfl⟩) | (go_at_call 63; refine (at_ok g d n a 1 _ hc hn (by omega) h1 h2).mono ?_; rintro e w' ⟨rfl, rfl⟩) | (go_at_call 69; refine (pick_u8 d a (fun i => G (a + i)) _ (fun i hi => hrow.out.cell (by omega)) hG.out).mono ?_; rintro e w' ⟨rfl, rfl⟩) | (go_at_call 68; refine (word_Canon _ _ _ hle0 hle1).mono ?_; rintro e w' ⟨rfl, rfl⟩))
  go_ret2
  exact ⟨rfl, rfl⟩

set_option maxHeartbeats 400000 in
set_option maxRecDepth 100000 in
theorem load_ok2 (g d n a : Nat) (k : Int) (G : Nat → Int) (w : World) (h : MemAt w g d n G) (hk : nbytes k = 2) (h1 : 4096 ≤ a) (h2 : a + 2 ≤ n) :
    Calls Try.prog 16 #[.pointer (some ⟨g, 0, none⟩), .int .u64 a, .int .i64 k] w fun e w' => e = .returned (.tuple #[.int .u64 (canon k (le (fun i => G (a + i)) 2)), .int .i64 0]) ∧ w = w' := by
  have hc := h.cell
  have hrow := Lib.hid h.row
  have hb := h.bytes
  have hn := h.hi
  have hle := le_bd (fun i => G (a + i)) (fun i => hb (a + i)) 2
  have hle0 : 0 ≤ le (fun i => G (a + i)) 2 := hle.1
  have hle1 : le (fun i => G (a + i)) 2 < 18446744073709551616 := by have := hle.2; omega
  have hG := Lib.hid (fun i => hb (a + i))
  have hk' := Lib.hid hk
  clear h hk hb hle
  go_enter Try.func16, Try.ntmps16
  go_wp2_with (first | (go_at_call 61; refine (word_Bytes_of _ _ _ hk'.out).mono ?_; rintro e w' ⟨rfl, rfl⟩) | (go_at_call 63; refine (at_ok g d n a 2 _ hc hn (by omega) h1 h2).mono ?_; rintro e w' ⟨rfl, rfl⟩) | (go_at_call 70; refine (pick_u16 d a (fun i => G (a + i)) _ (fun i hi => hrow.out.cell (by omega)) hG.out).mono ?_; rintro e w' ⟨rfl, rfl⟩) | (go_at_call 68; refine (word_Canon _ _ _ hle0 hle1).mono ?_; rintro e w' ⟨rfl, rfl⟩))
  go_ret2
  exact ⟨rfl, rfl⟩

set_option maxHeartbeats 400000 in
set_option maxRecDepth 100000 in
theorem load_ok4 (g d n a : Nat) (k : Int) (G : Nat → Int) (w : World) (h : MemAt w g d n G) (hk : nbytes k = 4) (h1 : 4096 ≤ a) (h2 : a + 4 ≤ n) :
    Calls Try.prog 16 #[.pointer (some ⟨g, 0, none⟩), .int .u64 a, .int .i64 k] w fun e w' => e = .returned (.tuple #[.int .u64 (canon k (le (fun i => G (a + i)) 4)), .int .i64 0]) ∧ w = w' := by
  have hc := h.cell
  have hrow := Lib.hid h.row
  have hb := h.bytes
  have hn := h.hi
  have hle := le_bd (fun i => G (a + i)) (fun i => hb (a + i)) 4
  have hle0 : 0 ≤ le (fun i => G (a + i)) 4 := hle.1
  have hle1 : le (fun i => G (a + i)) 4 < 18446744073709551616 := by have := hle.2; omega
  have hG := Lib.hid (fun i => hb (a + i))
  have hk' := Lib.hid hk
  clear h hk hb hle
  go_enter Try.func16, Try.ntmps16
  go_wp2_with (first | (go_at_call 61; refine (word_Bytes_of _ _ _ hk'.out).mono ?_; rintro e w' ⟨rfl, rfl⟩) | (go_at_call 63; refine (at_ok g d n a 4 _ hc hn (by omega) h1 h2).mono ?_; rintro e w' ⟨rfl, rfl⟩) | (go_at_call 71; refine (pick_u32 d a (fun i => G (a + i)) _ (fun i hi => hrow.out.cell (by omega)) hG.out).mono ?_; rintro e w' ⟨rfl, rfl⟩) | (go_at_call 68; refine (word_Canon _ _ _ hle0 hle1).mono ?_; rintro e w' ⟨rfl, rfl⟩))
  go_ret2
  exact ⟨rfl, rfl⟩

set_option maxHeartbeats 400000 in
set_option maxRecDepth 100000 in
theorem load_ok8 (g d n a : Nat) (k : Int) (G : Nat → Int) (w : World) (h : MemAt w g d n G) (hk : nbytes k = 8) (h1 : 4096 ≤ a) (h2 : a + 8 ≤ n) :
    Calls Try.prog 16 #[.pointer (some ⟨g, 0, none⟩), .int .u64 a, .int .i64 k] w fun e w' => e = .returned (.tuple #[.int .u64 (canon k (le (fun i => G (a + i)) 8)), .int .i64 0]) ∧ w = w' := by
  have hc := h.cell
  have hrow := Lib.hid h.row
  have hb := h.bytes
  have hn := h.hi
  have hle := le_bd (fun i => G (a + i)) (fun i => hb (a + i)) 8
  have hle0 : 0 ≤ le (fun i => G (a + i)) 8 := hle.1
  have hle1 : le (fun i => G (a + i)) 8 < 18446744073709551616 := by have := hle.2; omega
  have hG := Lib.hid (fun i => hb (a + i))
  have hk' := Lib.hid hk
  clear h hk hb hle
  go_enter Try.func16, Try.ntmps16
  go_wp2_with (first | (go_at_call 61; refine (word_Bytes_of _ _ _ hk'.out).mono ?_; rintro e w' ⟨rfl, rfl⟩) | (go_at_call 63; refine (at_ok g d n a 8 _ hc hn (by omega) h1 h2).mono ?_; rintro e w' ⟨rfl, rfl⟩) | (go_at_call 72; refine (pick_u64 d a (fun i => G (a + i)) _ (fun i hi => hrow.out.cell (by omega)) hG.out).mono ?_; rintro e w' ⟨rfl, rfl⟩))
  go_ret2
  exact ⟨by rw [canon_8 hk'.out]; rfl, rfl⟩

set_option maxHeartbeats 400000 in
set_option maxRecDepth 100000 in
theorem load_kind (g : Nat) (a k : Int) (w : World) (hk : nbytes k = 0) :
    Calls Try.prog 16 #[.pointer (some ⟨g, 0, none⟩), .int .u64 a, .int .i64 k] w fun e w' => e = .returned (.tuple #[.int .u64 0, .int .i64 10]) ∧ w = w' := by
  have hk' := Lib.hid hk
  clear hk
  go_enter Try.func16, Try.ntmps16
  go_wp2_with (first | (go_at_call 61; refine (word_Bytes_of _ _ _ hk'.out).mono ?_; rintro e w' ⟨rfl, rfl⟩))
  go_ret2
  exact ⟨rfl, rfl⟩

set_option maxHeartbeats 400000 in
set_option maxRecDepth 100000 in
theorem load_no (g d n : Nat) (a k m : Int) (G : Nat → Int) (w : World) (h : MemAt w g d n G) (hk : nbytes k = m) (hm : m = 1 ∨ m = 2 ∨ m = 4 ∨ m = 8) (ha0 : 0 ≤ a) (ha1 : a < 18446744073709551616) (hf : a < 4096 ∨ n < a + m) :
    Calls Try.prog 16 #[.pointer (some ⟨g, 0, none⟩), .int .u64 a, .int .i64 k] w fun e w' => e = .returned (.tuple #[.int .u64 0, .int .i64 21]) ∧ w = w' := by
  have hc := h.cell
  have hn := h.hi
  have hk' := Lib.hid hk
  have hm0 : (m == 0) = false := by rw [beq_eq_false_iff_ne]; omega
  have hm' := Lib.hid hm
  have hf' := Lib.hid hf
  clear h hk hm hf
  go_enter Try.func16, Try.ntmps16
  go_wp2_with (first | (go_at_call 61; refine (word_Bytes_of _ _ _ hk'.out).mono ?_; rintro e w' ⟨rfl, rfl⟩) | (go_at_call 63; refine (at_no g d n a m _ hc hn ha0 ha1 (by have := hm'.out; omega) (by have := hm'.out; omega) (by have := hm'.out; have := hf'.out; omega)).mono ?_; rintro e w' ⟨rfl, rfl⟩))
  go_ret2
  exact ⟨rfl, rfl⟩

set_option maxHeartbeats 400000 in
set_option maxRecDepth 100000 in
theorem store_kind (g : Nat) (a k x : Int) (w : World) (hk : nbytes k = 0) :
    Calls Try.prog 14 #[.pointer (some ⟨g, 0, none⟩), .int .u64 a, .int .i64 k, .int .u64 x] w fun e w' => e = .returned (.int .i64 10) ∧ w = w' := by
  have hk' := Lib.hid hk
  clear hk
  go_enter Try.func14, Try.ntmps14
  go_wp2_with (first | (go_at_call 61; refine (word_Bytes_of _ _ _ hk'.out).mono ?_; rintro e w' ⟨rfl, rfl⟩))
  go_ret
  exact ⟨rfl, rfl⟩

set_option maxHeartbeats 400000 in
set_option maxRecDepth 100000 in
theorem store_form (g : Nat) (a k x : Int) (w : World) (hk : nbytes k ≠ 0) (hx0 : 0 ≤ x) (hx1 : x < 18446744073709551616) (hx : isWord k x = false) :
    Calls Try.prog 14 #[.pointer (some ⟨g, 0, none⟩), .int .u64 a, .int .i64 k, .int .u64 x] w fun e w' => e = .returned (.int .i64 11) ∧ w = w' := by
  have hm0 : (nbytes k == 0) = false := by rw [beq_eq_false_iff_ne]; exact hk
  have hx' := Lib.hid hx
  clear hk hx
  go_enter Try.func14, Try.ntmps14
  go_wp2_with (first | (go_at_call 61; refine (word_Bytes _ _).mono ?_; rintro e w' ⟨rfl, rfl⟩) | (go_at_call 62; refine (word_Is_of _ _ _ _ hx0 hx1 hx'.out).mono ?_; rintro e w' ⟨rfl, rfl⟩))
  go_ret
  exact ⟨rfl, rfl⟩

set_option maxHeartbeats 400000 in
set_option maxRecDepth 100000 in
theorem store_no (g d n : Nat) (a k m x : Int) (G : Nat → Int) (w : World) (h : MemAt w g d n G) (hk : nbytes k = m) (hm : m = 1 ∨ m = 2 ∨ m = 4 ∨ m = 8) (ha0 : 0 ≤ a) (ha1 : a < 18446744073709551616) (hx0 : 0 ≤ x) (hx1 : x < 18446744073709551616) (hx : isWord k x = true) (hf : a < 4096 ∨ n < a + m) :
    Calls Try.prog 14 #[.pointer (some ⟨g, 0, none⟩), .int .u64 a, .int .i64 k, .int .u64 x] w fun e w' => e = .returned (.int .i64 21) ∧ w = w' := by
  have hc := h.cell
  have hn := h.hi
  have hk' := Lib.hid hk
  have hx' := Lib.hid hx
  have hm0 : (m == 0) = false := by rw [beq_eq_false_iff_ne]; omega
  have hm' := Lib.hid hm
  have hf' := Lib.hid hf
  clear h hk hm hf hx
  go_enter Try.func14, Try.ntmps14
  go_wp2_with (first | (go_at_call 61; refine (word_Bytes_of _ _ _ hk'.out).mono ?_; rintro e w' ⟨rfl, rfl⟩) | (go_at_call 62; refine (word_Is_of _ _ _ _ hx0 hx1 hx'.out).mono ?_; rintro e w' ⟨rfl, rfl⟩) | (go_at_call 63; refine (at_no g d n a m _ hc hn ha0 ha1 (by have := hm'.out; omega) (by have := hm'.out; omega) (by have := hm'.out; have := hf'.out; omega)).mono ?_; rintro e w' ⟨rfl, rfl⟩))
  go_ret
  exact ⟨rfl, rfl⟩

set_option maxHeartbeats 400000 in
set_option maxRecDepth 100000 in
theorem store_ok1 (g d n a : Nat) (k x : Int) (G : Nat → Int) (w : World) (h : MemAt w g d n G) (hk : nbytes k = 1) (hx0 : 0 ≤ x) (hx1 : x < 18446744073709551616) (hx : isWord k x = true) (h1 : 4096 ≤ a) (h2 : a + 1 ≤ n) :
    Calls Try.prog 14 #[.pointer (some ⟨g, 0, none⟩), .int .u64 a, .int .i64 k, .int .u64 x] w fun e w' => e = .returned (.int .i64 0) ∧ MemAt w' g d n (laid G x a 1) ∧ Keep (· = d) w w' := by
  have hc := h.cell
  have hrow := Lib.hid h.row
  have hn := h.hi
  have hk' := Lib.hid hk
  have hx' := Lib.hid hx
  have H := Lib.hid h
  clear h hk hx
  go_enter Try.func14, Try.ntmps14
  go_wp2_with (first | (go_at_call 61; refine (word_Bytes_of _ _ _ hk'.out).mono ?_; rintro e w' ⟨rfl, rfl⟩) | (go_at_call 62; refine (word_Is_of _ _ _ _ hx0 hx1 hx'.out).mono ?_; rintro e w' ⟨rfl, rfl⟩) | (go_at_call 63; refine (at_ok g d n a 1 _ hc hn (by omega) h1 h2).mono ?_; rintro e w' ⟨rfl, rfl⟩))
  refine (lay_u8 d a n _ G _ hrow.out h2 (by first | omega | (rw [IntKind.wrap_u16]; omega)) (by first | omega | (rw [IntKind.wrap_u16]; omega))).mono ?_
  rintro e w1 ⟨rfl, hr1, hk1⟩
  have HR := Lib.hid hr1
  have HK := Lib.hid hk1
  clear hr1 hk1
  go_wp2
  go_ret
  have HR2 := HR.out; (try rw [IntKind.wrap_u16] at HR2); rw [show (fun i => Value.int .u8 (laid G (x % 256) a 1 i)) = (fun i => Value.int .u8 (laid G x a 1 i)) from by have e := lay_mod G x a 1; funext i; exact congrArg (Value.int .u8) (congrFun e i)] at HR2
  exact ⟨rfl, H.out.lay HR2 HK.out, HK.out⟩

set_option maxHeartbeats 400000 in
set_option maxRecDepth 100000 in
theorem store_ok2 (g d n a : Nat) (k x : Int) (G : Nat → Int) (w : World) (h : MemAt w g d n G) (hk : nbytes k = 2) (hx0 : 0 ≤ x) (hx1 : x < 18446744073709551616) (hx : isWord k x = true) (h1 : 4096 ≤ a) (h2 : a + 2 ≤ n) :
    Calls Try.prog 14 #[.pointer (some ⟨g, 0, none⟩), .int .u64 a, .int .i64 k, .int .u64 x] w fun e w' => e = .returned (.int .i64 0) ∧ MemAt w' g d n (laid G x a 2) ∧ Keep (· = d) w w' := by
  have hc := h.cell
  have hrow := Lib.hid h.row
  have hn := h.hi
  have hk' := Lib.hid hk
  have hx' := Lib.hid hx
  have H := Lib.hid h
  clear h hk hx
  go_enter Try.func14, Try.ntmps14
  go_wp2_with (first | (go_at_call 61; refine (word_Bytes_of _ _ _ hk'.out).mono ?_; rintro e w' ⟨rfl, rfl⟩) | (go_at_call 62; refine (word_Is_of _ _ _ _ hx0 hx1 hx'.out).mono ?_; rintro e w' ⟨rfl, rfl⟩) | (go_at_call 63; refine (at_ok g d n a 2 _ hc hn (by omega) h1 h2).mono ?_; rintro e w' ⟨rfl, rfl⟩))
  refine (lay_u16 d a n _ G _ hrow.out h2 (by first | omega | (rw [IntKind.wrap_u16]; omega)) (by first | omega | (rw [IntKind.wrap_u16]; omega))).mono ?_
  rintro e w1 ⟨rfl, hr1, hk1⟩
  have HR := Lib.hid hr1
  have HK := Lib.hid hk1
  clear hr1 hk1
  go_wp2
  go_ret
  have HR2 := HR.out; (try rw [IntKind.wrap_u16] at HR2); rw [show (fun i => Value.int .u8 (laid G (x % 65536) a 2 i)) = (fun i => Value.int .u8 (laid G x a 2 i)) from by have e := lay_mod G x a 2; funext i; exact congrArg (Value.int .u8) (congrFun e i)] at HR2
  exact ⟨rfl, H.out.lay HR2 HK.out, HK.out⟩

set_option maxHeartbeats 400000 in
set_option maxRecDepth 100000 in
theorem store_ok4 (g d n a : Nat) (k x : Int) (G : Nat → Int) (w : World) (h : MemAt w g d n G) (hk : nbytes k = 4) (hx0 : 0 ≤ x) (hx1 : x < 18446744073709551616) (hx : isWord k x = true) (h1 : 4096 ≤ a) (h2 : a + 4 ≤ n) :
    Calls Try.prog 14 #[.pointer (some ⟨g, 0, none⟩), .int .u64 a, .int .i64 k, .int .u64 x] w fun e w' => e = .returned (.int .i64 0) ∧ MemAt w' g d n (laid G x a 4) ∧ Keep (· = d) w w' := by
  have hc := h.cell
  have hrow := Lib.hid h.row
  have hn := h.hi
  have hk' := Lib.hid hk
  have hx' := Lib.hid hx
  have H := Lib.hid h
  clear h hk hx
  go_enter Try.func14, Try.ntmps14
  go_wp2_with (first | (go_at_call 61; refine (word_Bytes_of _ _ _ hk'.out).mono ?_; rintro e w' ⟨rfl, rfl⟩) | (go_at_call 62; refine (word_Is_of _ _ _ _ hx0 hx1 hx'.out).mono ?_; rintro e w' ⟨rfl, rfl⟩) | (go_at_call 63; refine (at_ok g d n a 4 _ hc hn (by omega) h1 h2).mono ?_; rintro e w' ⟨rfl, rfl⟩))
  refine (lay_u32 d a n _ G _ hrow.out h2 (by first | omega | (rw [IntKind.wrap_u16]; omega)) (by first | omega | (rw [IntKind.wrap_u16]; omega))).mono ?_
  rintro e w1 ⟨rfl, hr1, hk1⟩
  have HR := Lib.hid hr1
  have HK := Lib.hid hk1
  clear hr1 hk1
  go_wp2
  go_ret
  have HR2 := HR.out; (try rw [IntKind.wrap_u16] at HR2); rw [show (fun i => Value.int .u8 (laid G (x % 4294967296) a 4 i)) = (fun i => Value.int .u8 (laid G x a 4 i)) from by have e := lay_mod G x a 4; funext i; exact congrArg (Value.int .u8) (congrFun e i)] at HR2
  exact ⟨rfl, H.out.lay HR2 HK.out, HK.out⟩

set_option maxHeartbeats 400000 in
set_option maxRecDepth 100000 in
theorem store_ok8 (g d n a : Nat) (k x : Int) (G : Nat → Int) (w : World) (h : MemAt w g d n G) (hk : nbytes k = 8) (hx0 : 0 ≤ x) (hx1 : x < 18446744073709551616) (hx : isWord k x = true) (h1 : 4096 ≤ a) (h2 : a + 8 ≤ n) :
    Calls Try.prog 14 #[.pointer (some ⟨g, 0, none⟩), .int .u64 a, .int .i64 k, .int .u64 x] w fun e w' => e = .returned (.int .i64 0) ∧ MemAt w' g d n (laid G x a 8) ∧ Keep (· = d) w w' := by
  have hc := h.cell
  have hrow := Lib.hid h.row
  have hn := h.hi
  have hk' := Lib.hid hk
  have hx' := Lib.hid hx
  have H := Lib.hid h
  clear h hk hx
  go_enter Try.func14, Try.ntmps14
  go_wp2_with (first | (go_at_call 61; refine (word_Bytes_of _ _ _ hk'.out).mono ?_; rintro e w' ⟨rfl, rfl⟩) | (go_at_call 62; refine (word_Is_of _ _ _ _ hx0 hx1 hx'.out).mono ?_; rintro e w' ⟨rfl, rfl⟩) | (go_at_call 63; refine (at_ok g d n a 8 _ hc hn (by omega) h1 h2).mono ?_; rintro e w' ⟨rfl, rfl⟩))
  refine (lay_u64 d a n _ G _ hrow.out h2).mono ?_
  rintro e w1 ⟨rfl, hr1, hk1⟩
  have HR := Lib.hid hr1
  have HK := Lib.hid hk1
  clear hr1 hk1
  go_wp2
  go_ret
  
  exact ⟨rfl, H.out.lay HR.out HK.out, HK.out⟩

end Go.Proofs.Ytekoogedhmhpgaa
