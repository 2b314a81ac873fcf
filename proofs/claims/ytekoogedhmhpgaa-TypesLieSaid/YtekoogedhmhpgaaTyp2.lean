/- The contract of types.shaped. -/
import Derived.Test.YtekoogedhmhpgaaTyp
namespace Go.Proofs.Ytekoogedhmhpgaa
open Go.RowKit Go.Proofs.YtekoogedhmhpgaaW.PrintWords Go.Proofs.Ytekoogedhmhpgaa.Q

/-- May an entry stand at i among n? -/
def shapedB (K E N : Int) (F : List Int) (i n : Int) : Bool :=
  if (1 ≤ K ∧ K ≤ 10) ∨ K = 15 then decide (E = 0 ∧ N = 0 ∧ F.length = 0)
  else if K = 11 ∨ K = 14 then entryB E n && decide (N = 0 ∧ F.length = 0)
  else if K = 12 then entryB E i && decide (0 ≤ N ∧ N ≤ 65536 ∧ F.length = 0)
  else if K = 13 then decide (E = 0 ∧ N = 0 ∧ F.length ≤ 16) && F.all (entryB · i)
  else false

theorem scalar_of (k : Int) (b : Bool) (w : World) (h : decide (1 ≤ k ∧ k ≤ 11) = b) : Calls Try.prog 149 #[.int .i64 k] w fun e w' => e = .returned (.bool b) ∧ w = w' := h ▸ scalar_ok k w
theorem entry1_of (k n : Int) (b : Bool) (w : World) (h : entryB k n = b) : Calls Try.prog 148 #[.int .i64 k, .int .i64 n] w fun e w' => e = .returned (.bool b) ∧ w = w' := h ▸ entry1_ok k n w
theorem containsFunc_of (i : Int) (r : Bool) (b c cap : Nat) (A : Option Addr) (l : List Int) (w : World) (hA : IntsAt w A l) (hb : w.cell? ⟨b, 0, none⟩ = some (.func (.func 148) #[] #[])) (hc : w.cell? ⟨c, 0, none⟩ = some (.int .i64 i)) (hl : l.length ≤ 140737488351232) (hr : l.all (entryB · i) = r) :
    Calls Try.prog 150 #[.slice A l.length cap, .func (.func 151) #[] #[.pointer (some ⟨b, 0, none⟩), .pointer (some ⟨c, 0, none⟩)]] w fun e w' => e = .returned (.bool (!r)) ∧ w = w' := hr ▸ containsFunc_ok i b c cap A l w hA hb hc hl
theorem cell_last (w : World) (v : Value) (T : TypeId) : (w.alloc (.cells #[v] T)).cell? ⟨w.heap.size, 0, none⟩ = some v := by simp
theorem cell_old {w : World} {o : Obj} {ad : Addr} {v : Value} (h : w.cell? ad = some v) : (w.alloc o).cell? ad = some v := pw_cell_below ((Below.refl _ _).alloc (Nat.le_refl _) o) h
theorem cell3c (w : World) (a b : Obj) (v : Value) (T : TypeId) : (((w.alloc a).alloc b).alloc (.cells #[v] T)).cell? ⟨w.heap.size + 1 + 1, 0, none⟩ = some v := by
  have h := cell_last ((w.alloc a).alloc b) v T
  simpa using h
theorem cell3b (w : World) (a c : Obj) (v : Value) (T : TypeId) : (((w.alloc a).alloc (.cells #[v] T)).alloc c).cell? ⟨w.heap.size + 1, 0, none⟩ = some v := by
  exact cell_old (by simp)
theorem below3 (w : World) (a b c : Obj) : Below w.heap.size w (((w.alloc a).alloc b).alloc c) :=
  (((Below.refl _ _).alloc (Nat.le_refl _) _).alloc (by simp) _).alloc (by simp; omega) _

set_option maxHeartbeats 1600000 in
set_option maxRecDepth 100000 in
theorem shaped_scalar (K E N i n : Int) (F : List Int) (A : Option Addr) (c : Nat) (w : World) (hA : IntsAt w A F) (_hl : F.length ≤ 140737488351232) (h : 1 ≤ K ∧ K ≤ 10) :
    Calls Try.prog 119 #[.agg #[.int .i64 K, .int .i64 E, .int .i64 N, .slice A F.length c], .int .i64 i, .int .i64 n] w fun e w' => e = .returned (.bool (shapedB K E N F i n)) ∧ Below w.heap.size w w' := by
  have hv : shapedB K E N F i n = decide (E = 0 ∧ N = 0 ∧ F.length = 0) := by unfold shapedB; rw [if_pos (Or.inl h)]
  have HV := Lib.hid hv
  have HA := Lib.hid hA
  have hs : decide (1 ≤ K ∧ K ≤ 11) = true := by simp; omega
  have HS := Lib.hid hs
  have h11 : (K == 11) = false := by rw [beq_eq_false_iff_ne]; omega
  have h12 : (K == 12) = false := by rw [beq_eq_false_iff_ne]; omega
  have h13 : (K == 13) = false := by rw [beq_eq_false_iff_ne]; omega
  have h14 : (K == 14) = false := by rw [beq_eq_false_iff_ne]; omega
  have h15 : (K == 15) = false := by rw [beq_eq_false_iff_ne]; omega
  have n11 : (K != 11) = true := by rw [bne_iff_ne]; omega
  clear h hs
  clear hv hA
  go_enter Try.func119, Try.ntmps119
  go_wp2_with (first | (go_at_call 149; refine (scalar_of _ _ _ HS.out).mono ?_; rintro e w' ⟨rfl, rfl⟩))
  all_goals
    go_ret
    exact ⟨ret_bool (by first | (rw [HV.out]; done) | (rw [HV.out]; rw [Bool.eq_iff_iff]; simp; done) | (rw [HV.out]; rw [Bool.eq_iff_iff]; simp; omega) | (rw [HV.out]; rw [Bool.eq_iff_iff]; simp [*]) | (have hv := HV.out; have hE : E = 0 := by assumption; have hN : N = 0 := by assumption; rw [hE, hN] at hv; rw [hv])), below3 _ _ _ _⟩

set_option maxHeartbeats 1600000 in
set_option maxRecDepth 100000 in
theorem shaped_string (K E N i n : Int) (F : List Int) (A : Option Addr) (c : Nat) (w : World) (hA : IntsAt w A F) (_hl : F.length ≤ 140737488351232) (h : K = 15) :
    Calls Try.prog 119 #[.agg #[.int .i64 K, .int .i64 E, .int .i64 N, .slice A F.length c], .int .i64 i, .int .i64 n] w fun e w' => e = .returned (.bool (shapedB K E N F i n)) ∧ Below w.heap.size w w' := by
  have hv : shapedB K E N F i n = decide (E = 0 ∧ N = 0 ∧ F.length = 0) := by unfold shapedB; rw [if_pos (Or.inr h)]
  have HV := Lib.hid hv
  have HA := Lib.hid hA
  have hs : decide (1 ≤ K ∧ K ≤ 11) = false := by simp; omega
  have HS := Lib.hid hs
  have h11 : (K == 11) = false := by rw [beq_eq_false_iff_ne]; omega
  have h12 : (K == 12) = false := by rw [beq_eq_false_iff_ne]; omega
  have h13 : (K == 13) = false := by rw [beq_eq_false_iff_ne]; omega
  have h14 : (K == 14) = false := by rw [beq_eq_false_iff_ne]; omega
  have h15 : (K == 15) = true := by rw [beq_iff_eq]; omega
  clear h hs
  clear hv hA
  go_enter Try.func119, Try.ntmps119
  go_wp2_with (first | (go_at_call 149; refine (scalar_of _ _ _ HS.out).mono ?_; rintro e w' ⟨rfl, rfl⟩))
  all_goals
    go_ret
    exact ⟨ret_bool (by first | (rw [HV.out]; done) | (rw [HV.out]; rw [Bool.eq_iff_iff]; simp; done) | (rw [HV.out]; rw [Bool.eq_iff_iff]; simp; omega) | (rw [HV.out]; rw [Bool.eq_iff_iff]; simp [*]) | (have hv := HV.out; have hE : E = 0 := by assumption; have hN : N = 0 := by assumption; rw [hE, hN] at hv; rw [hv])), below3 _ _ _ _⟩

set_option maxHeartbeats 1600000 in
set_option maxRecDepth 100000 in
theorem shaped_ptr_true (K E N i n : Int) (F : List Int) (A : Option Addr) (c : Nat) (w : World) (hA : IntsAt w A F) (_hl : F.length ≤ 140737488351232) (h : K = 11) (he : entryB E n = true) :
    Calls Try.prog 119 #[.agg #[.int .i64 K, .int .i64 E, .int .i64 N, .slice A F.length c], .int .i64 i, .int .i64 n] w fun e w' => e = .returned (.bool (shapedB K E N F i n)) ∧ Below w.heap.size w w' := by
  have hv : shapedB K E N F i n = (entryB E n && decide (N = 0 ∧ F.length = 0)) := by unfold shapedB; rw [if_neg (by omega), if_pos (by omega)]
  have HV := Lib.hid hv
  have HA := Lib.hid hA
  have hs : decide (1 ≤ K ∧ K ≤ 11) = true := by simp; omega
  have HS := Lib.hid hs
  have h11 : (K == 11) = true := by rw [beq_iff_eq]; omega
  have h12 : (K == 12) = false := by rw [beq_eq_false_iff_ne]; omega
  have h13 : (K == 13) = false := by rw [beq_eq_false_iff_ne]; omega
  have h14 : (K == 14) = false := by rw [beq_eq_false_iff_ne]; omega
  have h15 : (K == 15) = false := by rw [beq_eq_false_iff_ne]; omega
  have n11 : (K != 11) = false := by rw [bne_eq_false_iff_eq]; omega
  have HE := Lib.hid he
  clear h hs he
  clear hv hA
  go_enter Try.func119, Try.ntmps119
  go_wp2_with (first | (go_at_call 149; refine (scalar_of _ _ _ HS.out).mono ?_; rintro e w' ⟨rfl, rfl⟩) | (go_at_call 148; refine (entry1_of _ _ _ _ HE.out).mono ?_; rintro e w' ⟨rfl, rfl⟩))
  all_goals
    go_ret
    exact ⟨ret_bool (by first | (rw [HV.out]; done) | (rw [HV.out]; rw [HE.out]; rw [Bool.eq_iff_iff]; simp; done) | (rw [HV.out]; rw [HE.out]; rw [Bool.eq_iff_iff]; simp; omega) | (rw [HV.out]; rw [HE.out]; rw [Bool.eq_iff_iff]; simp [*]) | (have hv := HV.out; have hE : E = 0 := by assumption; have hN : N = 0 := by assumption; rw [hE, hN] at hv; rw [hv])), below3 _ _ _ _⟩

set_option maxHeartbeats 1600000 in
set_option maxRecDepth 100000 in
theorem shaped_ptr_false (K E N i n : Int) (F : List Int) (A : Option Addr) (c : Nat) (w : World) (hA : IntsAt w A F) (_hl : F.length ≤ 140737488351232) (h : K = 11) (he : entryB E n = false) :
    Calls Try.prog 119 #[.agg #[.int .i64 K, .int .i64 E, .int .i64 N, .slice A F.length c], .int .i64 i, .int .i64 n] w fun e w' => e = .returned (.bool (shapedB K E N F i n)) ∧ Below w.heap.size w w' := by
  have hv : shapedB K E N F i n = (entryB E n && decide (N = 0 ∧ F.length = 0)) := by unfold shapedB; rw [if_neg (by omega), if_pos (by omega)]
  have HV := Lib.hid hv
  have HA := Lib.hid hA
  have hs : decide (1 ≤ K ∧ K ≤ 11) = true := by simp; omega
  have HS := Lib.hid hs
  have h11 : (K == 11) = true := by rw [beq_iff_eq]; omega
  have h12 : (K == 12) = false := by rw [beq_eq_false_iff_ne]; omega
  have h13 : (K == 13) = false := by rw [beq_eq_false_iff_ne]; omega
  have h14 : (K == 14) = false := by rw [beq_eq_false_iff_ne]; omega
  have h15 : (K == 15) = false := by rw [beq_eq_false_iff_ne]; omega
  have n11 : (K != 11) = false := by rw [bne_eq_false_iff_eq]; omega
  have HE := Lib.hid he
  clear h hs he
  clear hv hA
  go_enter Try.func119, Try.ntmps119
  go_wp2_with (first | (go_at_call 149; refine (scalar_of _ _ _ HS.out).mono ?_; rintro e w' ⟨rfl, rfl⟩) | (go_at_call 148; refine (entry1_of _ _ _ _ HE.out).mono ?_; rintro e w' ⟨rfl, rfl⟩))
  all_goals
    go_ret
    exact ⟨ret_bool (by first | (rw [HV.out]; done) | (rw [HV.out]; rw [HE.out]; rw [Bool.eq_iff_iff]; simp; done) | (rw [HV.out]; rw [HE.out]; rw [Bool.eq_iff_iff]; simp; omega) | (rw [HV.out]; rw [HE.out]; rw [Bool.eq_iff_iff]; simp [*]) | (have hv := HV.out; have hE : E = 0 := by assumption; have hN : N = 0 := by assumption; rw [hE, hN] at hv; rw [hv])), below3 _ _ _ _⟩

set_option maxHeartbeats 1600000 in
set_option maxRecDepth 100000 in
theorem shaped_slice_true (K E N i n : Int) (F : List Int) (A : Option Addr) (c : Nat) (w : World) (hA : IntsAt w A F) (_hl : F.length ≤ 140737488351232) (h : K = 14) (he : entryB E n = true) :
    Calls Try.prog 119 #[.agg #[.int .i64 K, .int .i64 E, .int .i64 N, .slice A F.length c], .int .i64 i, .int .i64 n] w fun e w' => e = .returned (.bool (shapedB K E N F i n)) ∧ Below w.heap.size w w' := by
  have hv : shapedB K E N F i n = (entryB E n && decide (N = 0 ∧ F.length = 0)) := by unfold shapedB; rw [if_neg (by omega), if_pos (by omega)]
  have HV := Lib.hid hv
  have HA := Lib.hid hA
  have hs : decide (1 ≤ K ∧ K ≤ 11) = false := by simp; omega
  have HS := Lib.hid hs
  have h11 : (K == 11) = false := by rw [beq_eq_false_iff_ne]; omega
  have h12 : (K == 12) = false := by rw [beq_eq_false_iff_ne]; omega
  have h13 : (K == 13) = false := by rw [beq_eq_false_iff_ne]; omega
  have h14 : (K == 14) = true := by rw [beq_iff_eq]; omega
  have h15 : (K == 15) = false := by rw [beq_eq_false_iff_ne]; omega
  have HE := Lib.hid he
  clear h hs he
  clear hv hA
  go_enter Try.func119, Try.ntmps119
  go_wp2_with (first | (go_at_call 149; refine (scalar_of _ _ _ HS.out).mono ?_; rintro e w' ⟨rfl, rfl⟩) | (go_at_call 148; refine (entry1_of _ _ _ _ HE.out).mono ?_; rintro e w' ⟨rfl, rfl⟩))
  all_goals
    go_ret
    exact ⟨ret_bool (by first | (rw [HV.out]; done) | (rw [HV.out]; rw [HE.out]; rw [Bool.eq_iff_iff]; simp; done) | (rw [HV.out]; rw [HE.out]; rw [Bool.eq_iff_iff]; simp; omega) | (rw [HV.out]; rw [HE.out]; rw [Bool.eq_iff_iff]; simp [*]) | (have hv := HV.out; have hE : E = 0 := by assumption; have hN : N = 0 := by assumption; rw [hE, hN] at hv; rw [hv])), below3 _ _ _ _⟩

set_option maxHeartbeats 1600000 in
set_option maxRecDepth 100000 in
theorem shaped_slice_false (K E N i n : Int) (F : List Int) (A : Option Addr) (c : Nat) (w : World) (hA : IntsAt w A F) (_hl : F.length ≤ 140737488351232) (h : K = 14) (he : entryB E n = false) :
    Calls Try.prog 119 #[.agg #[.int .i64 K, .int .i64 E, .int .i64 N, .slice A F.length c], .int .i64 i, .int .i64 n] w fun e w' => e = .returned (.bool (shapedB K E N F i n)) ∧ Below w.heap.size w w' := by
  have hv : shapedB K E N F i n = (entryB E n && decide (N = 0 ∧ F.length = 0)) := by unfold shapedB; rw [if_neg (by omega), if_pos (by omega)]
  have HV := Lib.hid hv
  have HA := Lib.hid hA
  have hs : decide (1 ≤ K ∧ K ≤ 11) = false := by simp; omega
  have HS := Lib.hid hs
  have h11 : (K == 11) = false := by rw [beq_eq_false_iff_ne]; omega
  have h12 : (K == 12) = false := by rw [beq_eq_false_iff_ne]; omega
  have h13 : (K == 13) = false := by rw [beq_eq_false_iff_ne]; omega
  have h14 : (K == 14) = true := by rw [beq_iff_eq]; omega
  have h15 : (K == 15) = false := by rw [beq_eq_false_iff_ne]; omega
  have HE := Lib.hid he
  clear h hs he
  clear hv hA
  go_enter Try.func119, Try.ntmps119
  go_wp2_with (first | (go_at_call 149; refine (scalar_of _ _ _ HS.out).mono ?_; rintro e w' ⟨rfl, rfl⟩) | (go_at_call 148; refine (entry1_of _ _ _ _ HE.out).mono ?_; rintro e w' ⟨rfl, rfl⟩))
  all_goals
    go_ret
    exact ⟨ret_bool (by first | (rw [HV.out]; done) | (rw [HV.out]; rw [HE.out]; rw [Bool.eq_iff_iff]; simp; done) | (rw [HV.out]; rw [HE.out]; rw [Bool.eq_iff_iff]; simp; omega) | (rw [HV.out]; rw [HE.out]; rw [Bool.eq_iff_iff]; simp [*]) | (have hv := HV.out; have hE : E = 0 := by assumption; have hN : N = 0 := by assumption; rw [hE, hN] at hv; rw [hv])), below3 _ _ _ _⟩

set_option maxHeartbeats 1600000 in
set_option maxRecDepth 100000 in
theorem shaped_array_true (K E N i n : Int) (F : List Int) (A : Option Addr) (c : Nat) (w : World) (hA : IntsAt w A F) (_hl : F.length ≤ 140737488351232) (h : K = 12) (he : entryB E i = true) :
    Calls Try.prog 119 #[.agg #[.int .i64 K, .int .i64 E, .int .i64 N, .slice A F.length c], .int .i64 i, .int .i64 n] w fun e w' => e = .returned (.bool (shapedB K E N F i n)) ∧ Below w.heap.size w w' := by
  have hv : shapedB K E N F i n = (entryB E i && decide (0 ≤ N ∧ N ≤ 65536 ∧ F.length = 0)) := by unfold shapedB; rw [if_neg (by omega), if_neg (by omega), if_pos h]
  have HV := Lib.hid hv
  have HA := Lib.hid hA
  have hs : decide (1 ≤ K ∧ K ≤ 11) = false := by simp; omega
  have HS := Lib.hid hs
  have h11 : (K == 11) = false := by rw [beq_eq_false_iff_ne]; omega
  have h12 : (K == 12) = true := by rw [beq_iff_eq]; omega
  have h13 : (K == 13) = false := by rw [beq_eq_false_iff_ne]; omega
  have h14 : (K == 14) = false := by rw [beq_eq_false_iff_ne]; omega
  have h15 : (K == 15) = false := by rw [beq_eq_false_iff_ne]; omega
  have HE := Lib.hid he
  clear h hs he
  clear hv hA
  go_enter Try.func119, Try.ntmps119
  go_wp2_with (first | (go_at_call 149; refine (scalar_of _ _ _ HS.out).mono ?_; rintro e w' ⟨rfl, rfl⟩) | (go_at_call 148; refine (entry1_of _ _ _ _ HE.out).mono ?_; rintro e w' ⟨rfl, rfl⟩))
  all_goals
    go_ret
    exact ⟨ret_bool (by first | (rw [HV.out]; done) | (rw [HV.out]; rw [HE.out]; rw [Bool.eq_iff_iff]; simp; done) | (rw [HV.out]; rw [HE.out]; rw [Bool.eq_iff_iff]; simp; omega) | (rw [HV.out]; rw [HE.out]; rw [Bool.eq_iff_iff]; simp [*]) | (have hv := HV.out; have hE : E = 0 := by assumption; have hN : N = 0 := by assumption; rw [hE, hN] at hv; rw [hv])), below3 _ _ _ _⟩

set_option maxHeartbeats 1600000 in
set_option maxRecDepth 100000 in
theorem shaped_struct_true (i n : Int) (F : List Int) (A : Option Addr) (c : Nat) (w : World) (hA : IntsAt w A F) (hl : F.length ≤ 140737488351232) (h16 : F.length ≤ 16) (he : F.all (entryB · i) = true) :
    Calls Try.prog 119 #[.agg #[.int .i64 13, .int .i64 0, .int .i64 0, .slice A F.length c], .int .i64 i, .int .i64 n] w fun e w' => e = .returned (.bool true) ∧ Below w.heap.size w w' := by
  have HA := Lib.hid hA
  have HE := Lib.hid he
  have HS := Lib.hid (show decide (1 ≤ (13 : Int) ∧ (13 : Int) ≤ 11) = false from rfl)
  clear hA he
  go_enter Try.func119, Try.ntmps119
  go_wp2_with (first | (go_at_call 149; refine (scalar_of _ _ _ HS.out).mono ?_; rintro e w' ⟨rfl, rfl⟩))
  refine Calls.mono (containsFunc_of i true (w.heap.size + 1 + 1) (w.heap.size + 1) c A F _ ?_ ?_ ?_ hl HE.out) ?_
  · exact Kd.C_below HA.out (below3 w _ _ _)
  · exact cell3c _ _ _ _ _
  · exact cell3b _ _ _ _ _
  rintro e w' ⟨rfl, rfl⟩
  go_wp2
  go_ret
  exact ⟨rfl, below3 _ _ _ _⟩

set_option maxHeartbeats 1600000 in
set_option maxRecDepth 100000 in
theorem shaped_array_false (K E N i n : Int) (F : List Int) (A : Option Addr) (c : Nat) (w : World) (hA : IntsAt w A F) (_hl : F.length ≤ 140737488351232) (h : K = 12) (he : entryB E i = false) :
    Calls Try.prog 119 #[.agg #[.int .i64 K, .int .i64 E, .int .i64 N, .slice A F.length c], .int .i64 i, .int .i64 n] w fun e w' => e = .returned (.bool (shapedB K E N F i n)) ∧ Below w.heap.size w w' := by
  have hv : shapedB K E N F i n = (entryB E i && decide (0 ≤ N ∧ N ≤ 65536 ∧ F.length = 0)) := by unfold shapedB; rw [if_neg (by omega), if_neg (by omega), if_pos h]
  have HV := Lib.hid hv
  have HA := Lib.hid hA
  have hs : decide (1 ≤ K ∧ K ≤ 11) = false := by simp; omega
  have HS := Lib.hid hs
  have h11 : (K == 11) = false := by rw [beq_eq_false_iff_ne]; omega
  have h12 : (K == 12) = true := by rw [beq_iff_eq]; omega
  have h13 : (K == 13) = false := by rw [beq_eq_false_iff_ne]; omega
  have h14 : (K == 14) = false := by rw [beq_eq_false_iff_ne]; omega
  have h15 : (K == 15) = false := by rw [beq_eq_false_iff_ne]; omega
  have HE := Lib.hid he
  clear h hs he
  clear hv hA
  go_enter Try.func119, Try.ntmps119
  go_wp2_with (first | (go_at_call 149; refine (scalar_of _ _ _ HS.out).mono ?_; rintro e w' ⟨rfl, rfl⟩) | (go_at_call 148; refine (entry1_of _ _ _ _ HE.out).mono ?_; rintro e w' ⟨rfl, rfl⟩))
  all_goals
    go_ret
    exact ⟨ret_bool (by first | (rw [HV.out]; done) | (rw [HV.out]; rw [HE.out]; rw [Bool.eq_iff_iff]; simp; done) | (rw [HV.out]; rw [HE.out]; rw [Bool.eq_iff_iff]; simp; omega) | (rw [HV.out]; rw [HE.out]; rw [Bool.eq_iff_iff]; simp [*]) | (have hv := HV.out; have hE : E = 0 := by assumption; have hN : N = 0 := by assumption; rw [hE, hN] at hv; rw [hv])), below3 _ _ _ _⟩

set_option maxHeartbeats 1600000 in
set_option maxRecDepth 100000 in
theorem shaped_struct_false (i n : Int) (F : List Int) (A : Option Addr) (c : Nat) (w : World) (hA : IntsAt w A F) (hl : F.length ≤ 140737488351232) (h16 : F.length ≤ 16) (he : F.all (entryB · i) = false) :
    Calls Try.prog 119 #[.agg #[.int .i64 13, .int .i64 0, .int .i64 0, .slice A F.length c], .int .i64 i, .int .i64 n] w fun e w' => e = .returned (.bool false) ∧ Below w.heap.size w w' := by
  have HA := Lib.hid hA
  have HE := Lib.hid he
  have HS := Lib.hid (show decide (1 ≤ (13 : Int) ∧ (13 : Int) ≤ 11) = false from rfl)
  clear hA he
  go_enter Try.func119, Try.ntmps119
  go_wp2_with (first | (go_at_call 149; refine (scalar_of _ _ _ HS.out).mono ?_; rintro e w' ⟨rfl, rfl⟩))
  refine Calls.mono (containsFunc_of i false (w.heap.size + 1 + 1) (w.heap.size + 1) c A F _ ?_ ?_ ?_ hl HE.out) ?_
  · exact Kd.C_below HA.out (below3 w _ _ _)
  · exact cell3c _ _ _ _ _
  · exact cell3b _ _ _ _ _
  rintro e w' ⟨rfl, rfl⟩
  go_wp2
  go_ret
  exact ⟨rfl, below3 _ _ _ _⟩

set_option maxHeartbeats 1600000 in
set_option maxRecDepth 100000 in
theorem shaped_struct_no0 (E N i n : Int) (F : List Int) (A : Option Addr) (c : Nat) (w : World) (hE : E ≠ 0) :
    Calls Try.prog 119 #[.agg #[.int .i64 13, .int .i64 E, .int .i64 N, .slice A F.length c], .int .i64 i, .int .i64 n] w fun e w' => e = .returned (.bool false) ∧ Below w.heap.size w w' := by
  have HS := Lib.hid (show decide (1 ≤ (13 : Int) ∧ (13 : Int) ≤ 11) = false from rfl)
  have hE0 : (E == 0) = false := by rw [beq_eq_false_iff_ne]; exact hE
  go_enter Try.func119, Try.ntmps119
  go_wp2_with (first | (go_at_call 149; refine (scalar_of _ _ _ HS.out).mono ?_; rintro e w' ⟨rfl, rfl⟩))
  all_goals (try (exfalso; omega))
  all_goals
    go_ret
    exact ⟨rfl, below3 _ _ _ _⟩

set_option maxHeartbeats 1600000 in
set_option maxRecDepth 100000 in
theorem shaped_struct_no1 (N i n : Int) (F : List Int) (A : Option Addr) (c : Nat) (w : World) (hN : N ≠ 0) :
    Calls Try.prog 119 #[.agg #[.int .i64 13, .int .i64 0, .int .i64 N, .slice A F.length c], .int .i64 i, .int .i64 n] w fun e w' => e = .returned (.bool false) ∧ Below w.heap.size w w' := by
  have HS := Lib.hid (show decide (1 ≤ (13 : Int) ∧ (13 : Int) ≤ 11) = false from rfl)
  have hN0 : (N == 0) = false := by rw [beq_eq_false_iff_ne]; exact hN
  go_enter Try.func119, Try.ntmps119
  go_wp2_with (first | (go_at_call 149; refine (scalar_of _ _ _ HS.out).mono ?_; rintro e w' ⟨rfl, rfl⟩))
  all_goals (try (exfalso; omega))
  all_goals
    go_ret
    exact ⟨rfl, below3 _ _ _ _⟩

set_option maxHeartbeats 1600000 in
set_option maxRecDepth 100000 in
theorem shaped_struct_no2 (i n : Int) (F : List Int) (A : Option Addr) (c : Nat) (w : World) (h16 : 16 < F.length) :
    Calls Try.prog 119 #[.agg #[.int .i64 13, .int .i64 0, .int .i64 0, .slice A F.length c], .int .i64 i, .int .i64 n] w fun e w' => e = .returned (.bool false) ∧ Below w.heap.size w w' := by
  have HS := Lib.hid (show decide (1 ≤ (13 : Int) ∧ (13 : Int) ≤ 11) = false from rfl)
  have h16' : ¬ (F.length : Int) ≤ 16 := by omega
  go_enter Try.func119, Try.ntmps119
  go_wp2_with (first | (go_at_call 149; refine (scalar_of _ _ _ HS.out).mono ?_; rintro e w' ⟨rfl, rfl⟩))
  all_goals (try (exfalso; omega))
  all_goals
    go_ret
    exact ⟨rfl, below3 _ _ _ _⟩

set_option maxHeartbeats 1600000 in
set_option maxRecDepth 100000 in
theorem shaped_none (K E N i n : Int) (F : List Int) (A : Option Addr) (c : Nat) (w : World) (hA : IntsAt w A F) (_hl : F.length ≤ 140737488351232) (h : K < 1 ∨ 15 < K) :
    Calls Try.prog 119 #[.agg #[.int .i64 K, .int .i64 E, .int .i64 N, .slice A F.length c], .int .i64 i, .int .i64 n] w fun e w' => e = .returned (.bool (shapedB K E N F i n)) ∧ Below w.heap.size w w' := by
  have hv : shapedB K E N F i n = false := by unfold shapedB; rw [if_neg (by omega), if_neg (by omega), if_neg (by omega), if_neg (by omega)]
  have HV := Lib.hid hv
  have HA := Lib.hid hA
  have hs : decide (1 ≤ K ∧ K ≤ 11) = false := by simp; omega
  have HS := Lib.hid hs
  have h11 : (K == 11) = false := by rw [beq_eq_false_iff_ne]; omega
  have h12 : (K == 12) = false := by rw [beq_eq_false_iff_ne]; omega
  have h13 : (K == 13) = false := by rw [beq_eq_false_iff_ne]; omega
  have h14 : (K == 14) = false := by rw [beq_eq_false_iff_ne]; omega
  have h15 : (K == 15) = false := by rw [beq_eq_false_iff_ne]; omega
  clear h hs
  clear hv hA
  go_enter Try.func119, Try.ntmps119
  go_wp2_with (first | (go_at_call 149; refine (scalar_of _ _ _ HS.out).mono ?_; rintro e w' ⟨rfl, rfl⟩))
  all_goals
    go_ret
    exact ⟨ret_bool (by first | (rw [HV.out]; done) | (rw [HV.out]; rw [Bool.eq_iff_iff]; simp; done) | (rw [HV.out]; rw [Bool.eq_iff_iff]; simp; omega) | (rw [HV.out]; rw [Bool.eq_iff_iff]; simp [*]) | (have hv := HV.out; have hE : E = 0 := by assumption; have hN : N = 0 := by assumption; rw [hE, hN] at hv; rw [hv])), below3 _ _ _ _⟩

theorem shaped_ok (K E N i n : Int) (F : List Int) (A : Option Addr) (c : Nat) (w : World) (hA : IntsAt w A F) (hl : F.length ≤ 140737488351232) :
    Calls Try.prog 119 #[.agg #[.int .i64 K, .int .i64 E, .int .i64 N, .slice A F.length c], .int .i64 i, .int .i64 n] w fun e w' => e = .returned (.bool (shapedB K E N F i n)) ∧ Below w.heap.size w w' := by
  by_cases h1 : 1 ≤ K ∧ K ≤ 10
  · exact shaped_scalar K E N i n F A c w hA hl h1
  · by_cases h2 : K = 15
    · exact shaped_string K E N i n F A c w hA hl h2
    · by_cases h3 : K = 11
      · cases h : entryB E n
        · exact shaped_ptr_false K E N i n F A c w hA hl h3 h
        · exact shaped_ptr_true K E N i n F A c w hA hl h3 h
      · by_cases h4 : K = 14
        · cases h : entryB E n
          · exact shaped_slice_false K E N i n F A c w hA hl h4 h
          · exact shaped_slice_true K E N i n F A c w hA hl h4 h
        · by_cases h5 : K = 12
          · cases h : entryB E i
            · exact shaped_array_false K E N i n F A c w hA hl h5 h
            · exact shaped_array_true K E N i n F A c w hA hl h5 h
          · by_cases h6 : K = 13
            · by_cases hq : E = 0 ∧ N = 0 ∧ F.length ≤ 16
              · obtain ⟨rfl, rfl, hq⟩ := hq
                subst h6
                have hv : shapedB 13 0 0 F i n = F.all (entryB · i) := by unfold shapedB; simp [hq]
                rw [hv]
                cases h : F.all (entryB · i)
                · exact shaped_struct_false i n F A c w hA hl hq h
                · exact shaped_struct_true i n F A c w hA hl hq h
              · subst h6
                have hv : shapedB 13 E N F i n = false := by unfold shapedB; simp; omega
                rw [hv]
                by_cases hE : E = 0
                · subst hE
                  by_cases hN : N = 0
                  · subst hN
                    exact shaped_struct_no2 i n F A c w (by omega)
                  · exact shaped_struct_no1 N i n F A c w hN
                · exact shaped_struct_no0 E N i n F A c w hE
            · exact shaped_none K E N i n F A c w hA hl (by omega)

end Go.Proofs.Ytekoogedhmhpgaa
