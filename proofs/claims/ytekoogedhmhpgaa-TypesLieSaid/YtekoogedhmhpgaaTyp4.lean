/- The contract of types.one where the entry is no struct. -/
import Derived.Test.YtekoogedhmhpgaaTyp3
namespace Go.Proofs.Ytekoogedhmhpgaa
open Go.RowKit Go.Proofs.YtekoogedhmhpgaaW.PrintWords

/-- A lie as a value: its numbers, and rows of the call's own. -/
def LieVal (w : World) (base : Nat) (x : S130) (v : Value) : Prop :=
  ∃ vk va vf, v = .agg #[.int .i64 x.f0, .int .i64 x.f1, .bool x.f2, vk, va, vf] ∧ k130.M w base (fun _ => True) x [.int .i64 x.f0, .int .i64 x.f1, .bool x.f2, vk, va, vf]
theorem nil_R (w : World) (base : Nat) : (Kd.int .i64).R 3 w base (fun _ => True) (.slice none 0 0) [] := Kd.R_nil _ _ _ _ _
theorem lit_R {w : World} {base g : Nat} {xs : List Int} (hb : base ≤ g) (hg : w.heap[g]? = some (.cells (nums .i64 xs).toArray 3 (0, 0))) (hl : xs.length ≤ 100) : (Kd.int .i64).R 3 w base (fun _ => True) (.slice (some ⟨g, 0, none⟩) xs.length xs.length) xs := by
  refine Kd.R_of_own ⟨by simp [encs], .inr ⟨g, xs.length, _, rfl, hb, hg, Nat.le_refl _, by unfold maxLen; omega, by simp [nums], ?_⟩⟩ (fun _ _ => trivial)
  simp only [nums, encs]
  exact List.take_of_length_le (by simp)

theorem frozen_old {w : World} {o : Obj} {b i : Nat} (h : b < w.heap.size) (hf : w.frozen? ⟨b, i, none⟩ = false) : (w.alloc o).frozen? ⟨b, i, none⟩ = false :=
  (((Below.refl w.heap.size w).alloc (Nat.le_refl _) o).frozen h).trans hf
theorem blk_keep {w : World} {k : Nat} {o : Obj} (h : w.heap[k]? = some o) (p : Obj) : (w.alloc p).heap[k]? = some o :=
  (Deep.blk_alloc_lt _ _ _ (Array.getElem?_eq_some_iff.1 h).1).trans h
theorem blk1 (w : World) (a o : Obj) : ((w.alloc a).alloc o).heap[w.heap.size + 1]? = some o := by
  have h := Deep.blk_alloc_new (w.alloc a) o
  simpa using h
theorem blk2 (w : World) (a b o : Obj) : (((w.alloc a).alloc b).alloc o).heap[w.heap.size + 1 + 1]? = some o := by
  have h := Deep.blk_alloc_new ((w.alloc a).alloc b) o
  simpa using h
theorem blk3 (w : World) (a b c o : Obj) : ((((w.alloc a).alloc b).alloc c).alloc o).heap[w.heap.size + 1 + 1 + 1]? = some o := by
  have h := Deep.blk_alloc_new (((w.alloc a).alloc b).alloc c) o
  simpa using h

set_option maxHeartbeats 400000 in
set_option maxRecDepth 100000 in
theorem one_pair (K E N : Int) (A : Option Addr) (len c : Nat) (fv : Value) (w : World) (h : K = 14 ∨ K = 15) :
    Calls Try.prog 121 #[.agg #[.int .i64 K, .int .i64 E, .int .i64 N, .slice A len c], fv] w fun e w' => (∃ v, e = .returned v ∧ LieVal w' w.heap.size ⟨16, 8, true, [11, 5], [0, 8], []⟩ v) ∧ Below w.heap.size w w' := by
  have key : ∀ a b, LieVal ((((w.alloc a).alloc b).alloc (.cells #[.int .i64 11, .int .i64 5] 3)).alloc (.cells #[.int .i64 0, .int .i64 8] 3)) w.heap.size ⟨16, 8, true, [11, 5], [0, 8], []⟩ (.agg #[.int .i64 16, .int .i64 8, .bool true, .slice (some ⟨w.heap.size + 1 + 1, 0, none⟩) 2 2, .slice (some ⟨w.heap.size + 1 + 1 + 1, 0, none⟩) 2 2, .slice none 0 0]) := by
    intro a b
    refine ⟨_, _, _, rfl, k130_mkM _ _ _ _ ?_ ?_ ?_⟩
    · exact lit_R (xs := [11, 5]) (by omega) (blk_keep (blk2 w a b _) _) (by simp)
    · exact lit_R (xs := [0, 8]) (by omega) (blk3 w a b _ _) (by simp)
    · exact nil_R _ _
  have KEY := Lib.hid key
  clear key
  have hB : ∀ a b c d, Below w.heap.size w ((((w.alloc a).alloc b).alloc c).alloc d) := fun a b c d => (below3 w a b c).alloc (by simp; omega) d
  have HB := Lib.hid hB
  clear hB
  rcases h with rfl | rfl
  all_goals
    go_enter Try.func121, Try.ntmps121
    go_wp2
    refine bodyPost_ret (v := .agg #[.int .i64 16, .int .i64 8, .bool true, .slice (some ⟨w.heap.size + 1 + 1, 0, none⟩) 2 2, .slice (some ⟨w.heap.size + 1 + 1 + 1, 0, none⟩) 2 2, .slice none 0 0]) (by simp [results, Try.results121, go_sem]) rfl ⟨⟨_, rfl, KEY.out _ _⟩, HB.out _ _ _ _⟩

set_option maxHeartbeats 400000 in
set_option maxRecDepth 100000 in
theorem one_scalar (K E N : Int) (A : Option Addr) (len c : Nat) (fv : Value) (w : World) (h : 1 ≤ K ∧ K ≤ 11) :
    Calls Try.prog 121 #[.agg #[.int .i64 K, .int .i64 E, .int .i64 N, .slice A len c], fv] w fun e w' => (∃ v, e = .returned v ∧ LieVal w' w.heap.size ⟨nbytes K, nbytes K, true, [K], [0], []⟩ v) ∧ Below w.heap.size w w' := by
  have key : ∀ a b, LieVal ((((w.alloc a).alloc b).alloc (.cells #[.int .i64 K] 3)).alloc (.cells #[.int .i64 0] 3)) w.heap.size ⟨nbytes K, nbytes K, true, [K], [0], []⟩ (.agg #[.int .i64 (nbytes K), .int .i64 (nbytes K), .bool true, .slice (some ⟨w.heap.size + 1 + 1, 0, none⟩) 1 1, .slice (some ⟨w.heap.size + 1 + 1 + 1, 0, none⟩) 1 1, .slice none 0 0]) := by
    intro a b
    refine ⟨_, _, _, rfl, k130_mkM _ _ _ _ ?_ ?_ ?_⟩
    · exact lit_R (xs := [K]) (by omega) (blk_keep (blk2 w a b _) _) (by simp)
    · exact lit_R (xs := [0]) (by omega) (blk3 w a b _ _) (by simp)
    · exact nil_R _ _
  have KEY := Lib.hid key
  have hB : ∀ a b c d, Below w.heap.size w ((((w.alloc a).alloc b).alloc c).alloc d) := fun a b c d => (below3 w a b c).alloc (by simp; omega) d
  have HB := Lib.hid hB
  have k12 : (K == 12) = false := by rw [beq_eq_false_iff_ne]; omega
  have k13 : (K == 13) = false := by rw [beq_eq_false_iff_ne]; omega
  have k14 : (K == 14) = false := by rw [beq_eq_false_iff_ne]; omega
  have k15 : (K == 15) = false := by rw [beq_eq_false_iff_ne]; omega
  clear hB key h
  go_enter Try.func121, Try.ntmps121
  go_wp2_with (go_at_call 61; refine (word_Bytes _ _).mono ?_; rintro e w' ⟨rfl, rfl⟩)
  refine bodyPost_ret (v := .agg #[.int .i64 (nbytes K), .int .i64 (nbytes K), .bool true, .slice (some ⟨w.heap.size + 1 + 1, 0, none⟩) 1 1, .slice (some ⟨w.heap.size + 1 + 1 + 1, 0, none⟩) 1 1, .slice none 0 0]) (by simp [results, Try.results121, go_sem]) rfl ⟨⟨_, rfl, KEY.out _ _⟩, HB.out _ _ _ _⟩

set_option maxHeartbeats 400000 in
set_option maxRecDepth 100000 in
theorem one_array (E N : Int) (A : Option Addr) (len c lb cap : Nat) (B : Option Addr) (ls : List S130) (w : World) (hb : w.cell? ⟨lb, 0, none⟩ = some (.slice B ls.length cap)) (hl : Kd.C k130 w B ls.length ls) (h0 : 0 ≤ E) (h1 : E < ls.length) (hN : 0 ≤ N ∧ N ≤ 65536) (hs : 0 ≤ (rd_T130 ls E).f0 ∧ (rd_T130 ls E).f0 ≤ 65536) :
    Calls Try.prog 121 #[.agg #[.int .i64 12, .int .i64 E, .int .i64 N, .slice A len c], .func (.func 120) #[] #[.pointer (some ⟨lb, 0, none⟩)]] w fun e w' => (∃ v, e = .returned v ∧ LieVal w' w.heap.size ⟨N * (rd_T130 ls E).f0, (rd_T130 ls E).f1, false, [], [], []⟩ v) ∧ Below w.heap.size w w' := by
  have HL := Lib.hid hl
  have HBC := Lib.hid hb
  obtain ⟨hN0, hN1⟩ := hN
  obtain ⟨hs0, hs1⟩ := hs
  clear hl hb
  go_enter Try.func121, Try.ntmps121
  go_wp2_with fail
  have hbel : ∀ a b, Below w.heap.size w ((w.alloc a).alloc b) := fun a b => ((Below.refl _ _).alloc (Nat.le_refl _) a).alloc (by simp) b
  refine (found_ok lb cap B ls E _ w (hbel _ _) (pw_cell_below (hbel _ _) HBC.out) HL.out h0 h1).mono ?_
  rintro e w2 ⟨⟨A3, c3, A4, c4, A5, c5, rfl, _, _⟩, hb2⟩
  generalize hx : rd_T130 ls E = x at *
  have HX := Lib.hid hx
  clear hx
  have q2 := pw_cell_below hb2 (a := ⟨w.heap.size, 2, none⟩) (v := .int .i64 N) (by simp)
  have y0 := pw_cell_below hb2 (a := ⟨w.heap.size + 1, 0, none⟩) (v := .int .i64 0) (by simp)
  have z0 : w2.frozen? ⟨w.heap.size + 1, 0, none⟩ = false := (hb2.frozen (p := ⟨w.heap.size + 1, 0, none⟩) (by simp)).trans (by simp)
  have y1 := pw_cell_below hb2 (a := ⟨w.heap.size + 1, 1, none⟩) (v := .int .i64 0) (by simp)
  have z1 : w2.frozen? ⟨w.heap.size + 1, 1, none⟩ = false := (hb2.frozen (p := ⟨w.heap.size + 1, 1, none⟩) (by simp)).trans (by simp)
  have y2 := pw_cell_below hb2 (a := ⟨w.heap.size + 1, 2, none⟩) (v := .bool false) (by simp)
  have z2 : w2.frozen? ⟨w.heap.size + 1, 2, none⟩ = false := (hb2.frozen (p := ⟨w.heap.size + 1, 2, none⟩) (by simp)).trans (by simp)
  have y3 := pw_cell_below hb2 (a := ⟨w.heap.size + 1, 3, none⟩) (v := .slice none 0 0) (by simp)
  have z3 : w2.frozen? ⟨w.heap.size + 1, 3, none⟩ = false := (hb2.frozen (p := ⟨w.heap.size + 1, 3, none⟩) (by simp)).trans (by simp)
  have y4 := pw_cell_below hb2 (a := ⟨w.heap.size + 1, 4, none⟩) (v := .slice none 0 0) (by simp)
  have z4 : w2.frozen? ⟨w.heap.size + 1, 4, none⟩ = false := (hb2.frozen (p := ⟨w.heap.size + 1, 4, none⟩) (by simp)).trans (by simp)
  have y5 := pw_cell_below hb2 (a := ⟨w.heap.size + 1, 5, none⟩) (v := .slice none 0 0) (by simp)
  have z5 : w2.frozen? ⟨w.heap.size + 1, 5, none⟩ = false := (hb2.frozen (p := ⟨w.heap.size + 1, 5, none⟩) (by simp)).trans (by simp)
  have hsz : w.heap.size + 2 ≤ w2.heap.size := by have := hb2.size; simpa using this
  have hne : ¬ w.heap.size + 1 = w2.heap.size := by omega
  replace q2 := fun o => cell_old (o := o) q2
  replace y0 := fun o => cell_old (o := o) y0
  replace z0 := fun o => frozen_old (o := o) (by omega) z0
  replace y1 := fun o => cell_old (o := o) y1
  replace z1 := fun o => frozen_old (o := o) (by omega) z1
  replace y2 := fun o => cell_old (o := o) y2
  replace z2 := fun o => frozen_old (o := o) (by omega) z2
  replace y3 := fun o => cell_old (o := o) y3
  replace z3 := fun o => frozen_old (o := o) (by omega) z3
  replace y4 := fun o => cell_old (o := o) y4
  replace z4 := fun o => frozen_old (o := o) (by omega) z4
  replace y5 := fun o => cell_old (o := o) y5
  replace z5 := fun o => frozen_old (o := o) (by omega) z5
  have B2 := Lib.hid ((hbel _ _).trans (hb2.mono (B' := w.heap.size) (by simp; omega)))
  clear hb2 hbel
  have hm0 : 0 ≤ N * x.f0 := Int.mul_nonneg hN0 hs0
  have hm1 : N * x.f0 ≤ 65536 * 65536 := Int.mul_le_mul hN1 hs1 hs0 (by omega)
  have HW := Lib.hid (show wrap64 (N * x.f0) = N * x.f0 by unfold wrap64; omega)
  clear hm0 hm1
  go_wp2
  refine bodyPost_ret (v := .agg #[.int .i64 (wrap64 (N * x.f0)), .int .i64 x.f1, .bool false, .slice none 0 0, .slice none 0 0, .slice none 0 0]) (by simp [results, Try.results121, go_sem, y0, y1, y2, y3, y4, y5]) rfl ⟨⟨_, rfl, ?_⟩, ?_⟩
  · rw [HX.out, HW.out]
    exact ⟨_, _, _, rfl, k130_mkM _ _ _ _ (nil_R _ _) (nil_R _ _) (nil_R _ _)⟩
  · have h1 : Below w.heap.size w (w2.alloc (.cells #[.int .i64 x.f0, .int .i64 x.f1, .bool x.f2, .slice A3 x.f3.length c3, .slice A4 x.f4.length c4, .slice A5 x.f5.length c5] 130)) := B2.out.alloc B2.out.size _
    exact (((((h1.setCell (by simp) _).setCell (by simp) _).setCell (by simp) _).setCell (by simp) _).setCell (by simp) _).setCell (by simp) _

end Go.Proofs.Ytekoogedhmhpgaa
