/- The contracts of package mem's New and Size. -/
import Derived.Test.YtekoogedhmhpgaaMem2
namespace Go.Proofs.Ytekoogedhmhpgaa
open Go.RowKit

theorem Try.infoU8 : (Try.prog.info? 5).map (fun i => (i.zero, i.size, i.bytes)) = some (some (.int .u8 0), 1, 1) := by kernel_rfl

theorem memAt_new (w : World) (T n : Nat) (h0 : 8192 ≤ n) (h1 : n ≤ 1048576) :
    MemAt ((w.alloc (.cells (madeCells #[.int .u8 0] n) 5)).alloc (.cells #[.slice (some ⟨w.heap.size, 0, none⟩) n n] T)) (w.heap.size + 1) w.heap.size n (fun _ => 0) := by
  refine ⟨?_, ?_, by omega, h0, h1, fun _ => ⟨by omega, by omega⟩⟩
  · have h := World.rowIs_alloc (w.alloc (.cells (madeCells #[.int .u8 0] n) 5)) #[.slice (some ⟨w.heap.size, 0, none⟩) n n] T (fun _ => .slice (some ⟨w.heap.size, 0, none⟩) n n) (fun i hi => by
      have hi : i < 1 := hi
      obtain rfl : i = 0 := by omega
      rfl)
    exact ⟨_, by simpa using h⟩
  · exact (World.rowIs_made w (.int .u8 0) n 5).alloc _

set_option maxHeartbeats 400000 in
set_option maxRecDepth 100000 in
theorem new_ok (z : Int) (w : World) (h0 : 8192 ≤ z) (h1 : z ≤ 1048576) :
    Calls Try.prog 11 #[.int .i64 z] w fun e w' => e = .returned (.tuple #[.pointer (some ⟨w.heap.size + 1, 0, none⟩), .int .i64 0]) ∧ MemAt w' (w.heap.size + 1) w.heap.size z.toNat (fun _ => 0) ∧ Below w.heap.size w w' := by
  obtain ⟨n, rfl⟩ : ∃ n : Nat, z = n := ⟨z.toNat, by omega⟩
  have hm := Lib.hid (memAt_new w 103 n (by omega) (by omega))
  have hmk := run_make_row' (P := Try.prog) 30 5 (.int .u8 0) 1 Try.underlying30 Try.infoU8 rfl .i64 .i64 n (by omega) (by omega)
  go_enter Try.func11, Try.ntmps11
  go_wp2
  go_ret2
  exact ⟨rfl, hm.out, ((Below.refl _ _).alloc (Nat.le_refl _) _).alloc (by simp) _⟩

set_option maxHeartbeats 400000 in
set_option maxRecDepth 100000 in
theorem new_no (z : Int) (w : World) (h0 : -9223372036854775808 ≤ z) (h1 : z ≤ 9223372036854775807) (h : z < 8192 ∨ 1048576 < z) :
    Calls Try.prog 11 #[.int .i64 z] w fun e w' => e = .returned (.tuple #[.pointer none, .int .i64 20]) ∧ w = w' := by
  have H := Lib.hid h
  clear h
  go_enter Try.func11, Try.ntmps11
  go_wp2
  all_goals (have h := H.out)
  all_goals first | (exfalso; omega) | (go_ret2; exact ⟨rfl, rfl⟩)

set_option maxHeartbeats 400000 in
set_option maxRecDepth 100000 in
theorem size_ok (g d n : Nat) (G : Nat → Int) (w : World) (h : MemAt w g d n G) :
    Calls Try.prog 19 #[.pointer (some ⟨g, 0, none⟩)] w fun e w' => e = .returned (.int .i64 n) ∧ w = w' := by
  have hc := h.cell
  have hn := h.hi
  clear h
  go_enter Try.func19, Try.ntmps19
  go_wp2
  go_ret
  exact ⟨rfl, rfl⟩

end Go.Proofs.Ytekoogedhmhpgaa
