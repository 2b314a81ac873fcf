-- PRINTED by print.py (a twelfth state) out of the translation. Not trusted: Lean checks it.
import Derived.Test.YtekoogedhmhpgaaQx0E2
import Derived.Test.YtekoogedhmhpgaaQx5E2
import Derived.Test.YtekoogedhmhpgaaQx8E2
import Derived.Test.YtekoogedhmhpgaaQx9E2
import Derived.Test.YtekoogedhmhpgaaQGivenE2
namespace Go.Proofs.Ytekoogedhmhpgaa.Q
open Go.RowKit Go.Proofs.YtekoogedhmhpgaaW.PrintWords Go.Proofs.YtekoogedhmhpgaaW.PrintLast Go.Proofs.YtekoogedhmhpgaaW.PrintMore
attribute [local go_sem] max2_int min2_int max_two min_two max_three min_three max_four min_four   -- for this text's walks alone
set_option linter.unusedVariables false
set_option linter.unusedSimpArgs false

def gantryref0_EqType.f (k : Nat) (a0_0 : Int) (a0_1 : Int) (a0_2 : Int) (l0_3 : List Int) (a1_0 : Int) (a1_1 : Int) (a1_2 : Int) (l1_3 : List Int) : Option (Bool) := if a0_0 = a1_0 then (if a0_1 = a1_1 then (if a0_2 = a1_2 then ((gantryref0_EqNumbers.f k l0_3 l1_3).bind fun t348 => (some t348)) else (some false)) else (some false)) else (some false)
set_option maxHeartbeats 8000000 in
set_option maxRecDepth 100000 in
theorem gantryref0_EqType.calls (k : Nat) (a0_0 : Int) (a0_1 : Int) (a0_2 : Int) (A0_3 : Option Addr) (c0_3 : Nat) (l0_3 : List Int) (a1_0 : Int) (a1_1 : Int) (a1_2 : Int) (A1_3 : Option Addr) (c1_3 : Nat) (l1_3 : List Int) (r : Bool) (w : World) (hr0_3 : Kd.C (Kd.int .i64) w A0_3 l0_3.length l0_3) (hc0_3 : l0_3.length ≤ c0_3) (hr1_3 : Kd.C (Kd.int .i64) w A1_3 l1_3.length l1_3) (hc1_3 : l1_3.length ≤ c1_3) (h : gantryref0_EqType.f k a0_0 a0_1 a0_2 l0_3 a1_0 a1_1 a1_2 l1_3 = some r) :
  Calls Try.prog 92 #[.agg #[.int .i64 a0_0, .int .i64 a0_1, .int .i64 a0_2, .slice A0_3 l0_3.length c0_3], .agg #[.int .i64 a1_0, .int .i64 a1_1, .int .i64 a1_2, .slice A1_3 l1_3.length c1_3]] w fun e w' => e = .returned (.bool r) ∧ Below w.heap.size w w' := by
 have hu124 := Try.underlying124
 have HR0_3 := Aside0.mk hr0_3
 have HC0_3 := Aside0.mk hc0_3
 clear hr0_3 hc0_3
 have HR1_3 := Aside0.mk hr1_3
 have HC1_3 := Aside0.mk hc1_3
 clear hr1_3 hc1_3
 have HB := Aside0.mk (Below.refl w.heap.size w)
 have H : (if a0_0 = a1_0 then (if a0_1 = a1_1 then (if a0_2 = a1_2 then ((gantryref0_EqNumbers.f k l0_3 l1_3).bind fun t348 => (some t348)) else (some false)) else (some false)) else (some false)) = some r := h
 clear h
 by_cases c3 : a0_0 = a1_0
 ·rw [if_pos c3] at H
  have c3b0 : (a0_0 == a1_0) = true := beq_iff_eq.mpr c3
  have c3b1 : (a0_0 != a1_0) = false := bne_eq_false_iff_eq.mpr c3
  clear c3
  by_cases c4 : a0_1 = a1_1
  ·rw [if_pos c4] at H
   have c4b0 : (a0_1 == a1_1) = true := beq_iff_eq.mpr c4
   have c4b1 : (a0_1 != a1_1) = false := bne_eq_false_iff_eq.mpr c4
   clear c4
   by_cases c5 : a0_2 = a1_2
   ·rw [if_pos c5] at H
    have c5b0 : (a0_2 == a1_2) = true := beq_iff_eq.mpr c5
    have c5b1 : (a0_2 != a1_2) = false := bne_eq_false_iff_eq.mpr c5
    clear c5
    replace H := Option.bind_eq_some_iff.mp H
    obtain ⟨t348, A60, H⟩ := H
    replace H : (some t348) = some r := H
    have A6 := Aside0.mk A60
    clear A60
    obtain rfl := Option.some.inj H
    go_enter Try.func92, Try.ntmps92
    go_wp2_with (first | ((with_reducible refine gate_dst (N := 2) rfl ?_); refine box_event ?hg (N := 2) ?hd (cs := #[.int .i64 a0_0, .int .i64 a0_1, .int .i64 a0_2, .slice A0_3 l0_3.length c0_3]) (t := 124) ?hr ?_; (case hd => rfl); (case hg => rfl); (case hr => first | (go_simp; done) | (go_simp; rfl)); intro gb346 hg w7 hbox hb; have n0_ := Aside0.mk (below_step (by repeat (first | (with_reducible first | exact HB.out | apply below_alloc | apply pw_below_drewN | apply below_drew1) | exact HB.out)) hb); have n1_ := Aside0.mk (hbox); have n2_ := Aside0.mk ((by rw [hg]; exact (below_size (by repeat (first | (with_reducible first | exact HB.out | apply below_alloc | apply pw_below_drewN | apply below_drew1) | exact HB.out))) : w.heap.size ≤ gb346)); have n3_ := Aside0.mk ((by rw [hg]; exact (below_size (by repeat (first | (with_reducible first | exact HB.out | apply below_alloc | apply pw_below_drewN | apply below_drew1) | exact HB.out))) : w.heap.size ≤ gb346)); clear HB; have HB := n0_; have BK346 := n1_; have GW346 := n2_; have GE346 := n3_; clear n0_ n1_ n2_ n3_; clear hb hbox hg) | ((with_reducible refine gate_dst (N := 3) rfl ?_); refine box_event ?hg (N := 3) ?hd (cs := #[.int .i64 a1_0, .int .i64 a1_1, .int .i64 a1_2, .slice A1_3 l1_3.length c1_3]) (t := 124) ?hr ?_; (case hd => rfl); (case hg => rfl); (case hr => first | (go_simp; done) | (go_simp; rfl)); intro gb347 hg w8 hbox hb; have n0_ := Aside0.mk (blk_below (g := gb346) (o := .cells #[.int .i64 a0_0, .int .i64 a0_1, .int .i64 a0_2, .slice A0_3 l0_3.length c0_3] 124 (0, 0)) (by (with_reducible repeat (first | refine blk_drewN ?_ _ | refine blk_drew ?_ | refine blk_alloc ?_ _)); exact BK346.out) hb); have n1_ := Aside0.mk (below_step (by repeat (first | (with_reducible first | exact HB.out | apply below_alloc | apply pw_below_drewN | apply below_drew1 | refine below_set ?_ GE346.out) | exact HB.out)) hb); have n2_ := Aside0.mk (hbox); have n3_ := Aside0.mk ((by rw [hg]; exact (below_size (by repeat (first | (with_reducible first | exact HB.out | apply below_alloc | apply pw_below_drewN | apply below_drew1 | refine below_set ?_ GE346.out) | exact HB.out))) : w.heap.size ≤ gb347)); have n4_ := Aside0.mk ((by rw [hg]; exact (below_size (by repeat (first | (with_reducible first | exact HB.out | apply below_alloc | apply pw_below_drewN | apply below_drew1 | refine below_set ?_ GE346.out) | exact HB.out))) : w.heap.size ≤ gb347)); have n5_ := Aside0.mk ((by rw [hg]; exact Nat.ne_of_lt (blk_lt (g := gb346) (o := .cells #[.int .i64 a0_0, .int .i64 a0_1, .int .i64 a0_2, .slice A0_3 l0_3.length c0_3] 124 (0, 0)) (by (with_reducible repeat (first | refine blk_drewN ?_ _ | refine blk_drew ?_ | refine blk_alloc ?_ _)); exact BK346.out)) : gb346 ≠ gb347)); have n6_ := Aside0.mk ((by rw [hg]; exact Nat.ne_of_gt (blk_lt (g := gb346) (o := .cells #[.int .i64 a0_0, .int .i64 a0_1, .int .i64 a0_2, .slice A0_3 l0_3.length c0_3] 124 (0, 0)) (by (with_reducible repeat (first | refine blk_drewN ?_ _ | refine blk_drew ?_ | refine blk_alloc ?_ _)); exact BK346.out)) : gb347 ≠ gb346)); clear BK346; clear HB; have BK346 := n0_; have HB := n1_; have BK347 := n2_; have GW347 := n3_; have GE347 := n4_; have NB346_347 := n5_; have NB347_346 := n6_; clear n0_ n1_ n2_ n3_ n4_ n5_ n6_; clear hb hbox hg; have hnb9 := NB346_347.out; have hnc9 := NB347_346.out; have hcz10_0 : w8.cell? ⟨gb346, 0, none⟩ = some (.int .i64 a0_0) := (blk_cell BK346.out 0).trans rfl; have hcz10_1 : w8.cell? ⟨gb346, 1, none⟩ = some (.int .i64 a0_1) := (blk_cell BK346.out 1).trans rfl; have hcz10_2 : w8.cell? ⟨gb346, 2, none⟩ = some (.int .i64 a0_2) := (blk_cell BK346.out 2).trans rfl; have hcz10_3 : w8.cell? ⟨gb346, 3, none⟩ = some (.slice A0_3 l0_3.length c0_3) := (blk_cell BK346.out 3).trans rfl; have hfz10_0 := blk_frozen BK346.out 0; have hfz10_1 := blk_frozen BK346.out 1; have hfz10_2 := blk_frozen BK346.out 2; have hfz10_3 := blk_frozen BK346.out 3; have hcz11_0 : w8.cell? ⟨gb347, 0, none⟩ = some (.int .i64 a1_0) := (blk_cell BK347.out 0).trans rfl; have hcz11_1 : w8.cell? ⟨gb347, 1, none⟩ = some (.int .i64 a1_1) := (blk_cell BK347.out 1).trans rfl; have hcz11_2 : w8.cell? ⟨gb347, 2, none⟩ = some (.int .i64 a1_2) := (blk_cell BK347.out 2).trans rfl; have hcz11_3 : w8.cell? ⟨gb347, 3, none⟩ = some (.slice A1_3 l1_3.length c1_3) := (blk_cell BK347.out 3).trans rfl; have hfz11_0 := blk_frozen BK347.out 0; have hfz11_1 := blk_frozen BK347.out 1; have hfz11_2 := blk_frozen BK347.out 2; have hfz11_3 := blk_frozen BK347.out 3) | (go_at_call 89; (with_reducible refine (gantryref0_EqNumbers.calls k _ _ l0_3 _ _ l1_3 t348 _ ?side1 ?side2 ?side3 ?side4 A6.out).mono ?_); (case side1 => repeat (first | exact (Kd.C_below HR0_3.out HB.out) | (with_reducible refine Kd.C_alloc ?_ _) | (with_reducible refine Kd.C_drewN ?_ _) | (with_reducible refine Kd.C_drew ?_))); (case side2 => exact HC0_3.out); (case side3 => repeat (first | exact (Kd.C_below HR1_3.out HB.out) | (with_reducible refine Kd.C_alloc ?_ _) | (with_reducible refine Kd.C_drewN ?_ _) | (with_reducible refine Kd.C_drew ?_))); (case side4 => exact HC1_3.out); rintro e w' ⟨rfl, ⟨nd, rfl⟩⟩))
    go_ret
    exact ⟨by first | rfl | (simp [errW_none, errW_some] <;> rfl) | (simp [*, errW_none, errW_some] <;> rfl), by repeat (first | (with_reducible first | exact HB.out | apply below_alloc | apply pw_below_drewN | apply below_drew1 | refine below_set ?_ GE346.out | refine below_set ?_ GE347.out) | exact HB.out)⟩
   ·rw [if_neg c5] at H
    have c5b0 : (a0_2 == a1_2) = false := beq_eq_false_iff_ne.mpr c5
    have c5b1 : (a0_2 != a1_2) = true := bne_iff_ne.mpr c5
    obtain rfl := Option.some.inj H
    go_enter Try.func92, Try.ntmps92
    go_wp2_with (first | ((with_reducible refine gate_dst (N := 2) rfl ?_); refine box_event ?hg (N := 2) ?hd (cs := #[.int .i64 a0_0, .int .i64 a0_1, .int .i64 a0_2, .slice A0_3 l0_3.length c0_3]) (t := 124) ?hr ?_; (case hd => rfl); (case hg => rfl); (case hr => first | (go_simp; done) | (go_simp; rfl)); intro gb346 hg w12 hbox hb; have n0_ := Aside0.mk (below_step (by repeat (first | (with_reducible first | exact HB.out | apply below_alloc | apply pw_below_drewN | apply below_drew1) | exact HB.out)) hb); have n1_ := Aside0.mk (hbox); have n2_ := Aside0.mk ((by rw [hg]; exact (below_size (by repeat (first | (with_reducible first | exact HB.out | apply below_alloc | apply pw_below_drewN | apply below_drew1) | exact HB.out))) : w.heap.size ≤ gb346)); have n3_ := Aside0.mk ((by rw [hg]; exact (below_size (by repeat (first | (with_reducible first | exact HB.out | apply below_alloc | apply pw_below_drewN | apply below_drew1) | exact HB.out))) : w.heap.size ≤ gb346)); clear HB; have HB := n0_; have BK346 := n1_; have GW346 := n2_; have GE346 := n3_; clear n0_ n1_ n2_ n3_; clear hb hbox hg) | ((with_reducible refine gate_dst (N := 3) rfl ?_); refine box_event ?hg (N := 3) ?hd (cs := #[.int .i64 a1_0, .int .i64 a1_1, .int .i64 a1_2, .slice A1_3 l1_3.length c1_3]) (t := 124) ?hr ?_; (case hd => rfl); (case hg => rfl); (case hr => first | (go_simp; done) | (go_simp; rfl)); intro gb347 hg w13 hbox hb; have n0_ := Aside0.mk (blk_below (g := gb346) (o := .cells #[.int .i64 a0_0, .int .i64 a0_1, .int .i64 a0_2, .slice A0_3 l0_3.length c0_3] 124 (0, 0)) (by (with_reducible repeat (first | refine blk_drewN ?_ _ | refine blk_drew ?_ | refine blk_alloc ?_ _)); exact BK346.out) hb); have n1_ := Aside0.mk (below_step (by repeat (first | (with_reducible first | exact HB.out | apply below_alloc | apply pw_below_drewN | apply below_drew1 | refine below_set ?_ GE346.out) | exact HB.out)) hb); have n2_ := Aside0.mk (hbox); have n3_ := Aside0.mk ((by rw [hg]; exact (below_size (by repeat (first | (with_reducible first | exact HB.out | apply below_alloc | apply pw_below_drewN | apply below_drew1 | refine below_set ?_ GE346.out) | exact HB.out))) : w.heap.size ≤ gb347)); have n4_ := Aside0.mk ((by rw [hg]; exact (below_size (by repeat (first | (with_reducible first | exact HB.out | apply below_alloc | apply pw_below_drewN | apply below_drew1 | refine below_set ?_ GE346.out) | exact HB.out))) : w.heap.size ≤ gb347)); have n5_ := Aside0.mk ((by rw [hg]; exact Nat.ne_of_lt (blk_lt (g := gb346) (o := .cells #[.int .i64 a0_0, .int .i64 a0_1, .int .i64 a0_2, .slice A0_3 l0_3.length c0_3] 124 (0, 0)) (by (with_reducible repeat (first | refine blk_drewN ?_ _ | refine blk_drew ?_ | refine blk_alloc ?_ _)); exact BK346.out)) : gb346 ≠ gb347)); have n6_ := Aside0.mk ((by rw [hg]; exact Nat.ne_of_gt (blk_lt (g := gb346) (o := .cells #[.int .i64 a0_0, .int .i64 a0_1, .int .i64 a0_2, .slice A0_3 l0_3.length c0_3] 124 (0, 0)) (by (with_reducible repeat (first | refine blk_drewN ?_ _ | refine blk_drew ?_ | refine blk_alloc ?_ _)); exact BK346.out)) : gb347 ≠ gb346)); clear BK346; clear HB; have BK346 := n0_; have HB := n1_; have BK347 := n2_; have GW347 := n3_; have GE347 := n4_; have NB346_347 := n5_; have NB347_346 := n6_; clear n0_ n1_ n2_ n3_ n4_ n5_ n6_; clear hb hbox hg; have hnb14 := NB346_347.out; have hnc14 := NB347_346.out; have hcz15_0 : w13.cell? ⟨gb346, 0, none⟩ = some (.int .i64 a0_0) := (blk_cell BK346.out 0).trans rfl; have hcz15_1 : w13.cell? ⟨gb346, 1, none⟩ = some (.int .i64 a0_1) := (blk_cell BK346.out 1).trans rfl; have hcz15_2 : w13.cell? ⟨gb346, 2, none⟩ = some (.int .i64 a0_2) := (blk_cell BK346.out 2).trans rfl; have hcz15_3 : w13.cell? ⟨gb346, 3, none⟩ = some (.slice A0_3 l0_3.length c0_3) := (blk_cell BK346.out 3).trans rfl; have hfz15_0 := blk_frozen BK346.out 0; have hfz15_1 := blk_frozen BK346.out 1; have hfz15_2 := blk_frozen BK346.out 2; have hfz15_3 := blk_frozen BK346.out 3; have hcz16_0 : w13.cell? ⟨gb347, 0, none⟩ = some (.int .i64 a1_0) := (blk_cell BK347.out 0).trans rfl; have hcz16_1 : w13.cell? ⟨gb347, 1, none⟩ = some (.int .i64 a1_1) := (blk_cell BK347.out 1).trans rfl; have hcz16_2 : w13.cell? ⟨gb347, 2, none⟩ = some (.int .i64 a1_2) := (blk_cell BK347.out 2).trans rfl; have hcz16_3 : w13.cell? ⟨gb347, 3, none⟩ = some (.slice A1_3 l1_3.length c1_3) := (blk_cell BK347.out 3).trans rfl; have hfz16_0 := blk_frozen BK347.out 0; have hfz16_1 := blk_frozen BK347.out 1; have hfz16_2 := blk_frozen BK347.out 2; have hfz16_3 := blk_frozen BK347.out 3))
    go_ret
    exact ⟨by first | rfl | (simp [errW_none, errW_some] <;> rfl) | (simp [*, errW_none, errW_some] <;> rfl), by repeat (first | (with_reducible first | exact HB.out | apply below_alloc | apply pw_below_drewN | apply below_drew1 | refine below_set ?_ GE346.out | refine below_set ?_ GE347.out) | exact HB.out)⟩
  ·rw [if_neg c4] at H
   have c4b0 : (a0_1 == a1_1) = false := beq_eq_false_iff_ne.mpr c4
   have c4b1 : (a0_1 != a1_1) = true := bne_iff_ne.mpr c4
   obtain rfl := Option.some.inj H
   go_enter Try.func92, Try.ntmps92
   go_wp2_with (first | ((with_reducible refine gate_dst (N := 2) rfl ?_); refine box_event ?hg (N := 2) ?hd (cs := #[.int .i64 a0_0, .int .i64 a0_1, .int .i64 a0_2, .slice A0_3 l0_3.length c0_3]) (t := 124) ?hr ?_; (case hd => rfl); (case hg => rfl); (case hr => first | (go_simp; done) | (go_simp; rfl)); intro gb346 hg w17 hbox hb; have n0_ := Aside0.mk (below_step (by repeat (first | (with_reducible first | exact HB.out | apply below_alloc | apply pw_below_drewN | apply below_drew1) | exact HB.out)) hb); have n1_ := Aside0.mk (hbox); have n2_ := Aside0.mk ((by rw [hg]; exact (below_size (by repeat (first | (with_reducible first | exact HB.out | apply below_alloc | apply pw_below_drewN | apply below_drew1) | exact HB.out))) : w.heap.size ≤ gb346)); have n3_ := Aside0.mk ((by rw [hg]; exact (below_size (by repeat (first | (with_reducible first | exact HB.out | apply below_alloc | apply pw_below_drewN | apply below_drew1) | exact HB.out))) : w.heap.size ≤ gb346)); clear HB; have HB := n0_; have BK346 := n1_; have GW346 := n2_; have GE346 := n3_; clear n0_ n1_ n2_ n3_; clear hb hbox hg) | ((with_reducible refine gate_dst (N := 3) rfl ?_); refine box_event ?hg (N := 3) ?hd (cs := #[.int .i64 a1_0, .int .i64 a1_1, .int .i64 a1_2, .slice A1_3 l1_3.length c1_3]) (t := 124) ?hr ?_; (case hd => rfl); (case hg => rfl); (case hr => first | (go_simp; done) | (go_simp; rfl)); intro gb347 hg w18 hbox hb; have n0_ := Aside0.mk (blk_below (g := gb346) (o := .cells #[.int .i64 a0_0, .int .i64 a0_1, .int .i64 a0_2, .slice A0_3 l0_3.length c0_3] 124 (0, 0)) (by (with_reducible repeat (first | refine blk_drewN ?_ _ | refine blk_drew ?_ | refine blk_alloc ?_ _)); exact BK346.out) hb); have n1_ := Aside0.mk (below_step (by repeat (first | (with_reducible first | exact HB.out | apply below_alloc | apply pw_below_drewN | apply below_drew1 | refine below_set ?_ GE346.out) | exact HB.out)) hb); have n2_ := Aside0.mk (hbox); have n3_ := Aside0.mk ((by rw [hg]; exact (below_size (by repeat (first | (with_reducible first | exact HB.out | apply below_alloc | apply pw_below_drewN | apply below_drew1 | refine below_set ?_ GE346.out) | exact HB.out))) : w.heap.size ≤ gb347)); have n4_ := Aside0.mk ((by rw [hg]; exact (below_size (by repeat (first | (with_reducible first | exact HB.out | apply below_alloc | apply pw_below_drewN | apply below_drew1 | refine below_set ?_ GE346.out) | exact HB.out))) : w.heap.size ≤ gb347)); have n5_ := Aside0.mk ((by rw [hg]; exact Nat.ne_of_lt (blk_lt (g := gb346) (o := .cells #[.int .i64 a0_0, .int .i64 a0_1, .int .i64 a0_2, .slice A0_3 l0_3.length c0_3] 124 (0, 0)) (by (with_reducible repeat (first | refine blk_drewN ?_ _ | refine blk_drew ?_ | refine blk_alloc ?_ _)); exact BK346.out)) : gb346 ≠ gb347)); have n6_ := Aside0.mk ((by rw [hg]; exact Nat.ne_of_gt (blk_lt (g := gb346) (o := .cells #[.int .i64 a0_0, .int .i64 a0_1, .int .i64 a0_2, .slice A0_3 l0_3.length c0_3] 124 (0, 0)) (by (with_reducible repeat (first | refine blk_drewN ?_ _ | refine blk_drew ?_ | refine blk_alloc ?_ _)); exact BK346.out)) : gb347 ≠ gb346)); clear BK346; clear HB; have BK346 := n0_; have HB := n1_; have BK347 := n2_; have GW347 := n3_; have GE347 := n4_; have NB346_347 := n5_; have NB347_346 := n6_; clear n0_ n1_ n2_ n3_ n4_ n5_ n6_; clear hb hbox hg; have hnb19 := NB346_347.out; have hnc19 := NB347_346.out; have hcz20_0 : w18.cell? ⟨gb346, 0, none⟩ = some (.int .i64 a0_0) := (blk_cell BK346.out 0).trans rfl; have hcz20_1 : w18.cell? ⟨gb346, 1, none⟩ = some (.int .i64 a0_1) := (blk_cell BK346.out 1).trans rfl; have hcz20_2 : w18.cell? ⟨gb346, 2, none⟩ = some (.int .i64 a0_2) := (blk_cell BK346.out 2).trans rfl; have hcz20_3 : w18.cell? ⟨gb346, 3, none⟩ = some (.slice A0_3 l0_3.length c0_3) := (blk_cell BK346.out 3).trans rfl; have hfz20_0 := blk_frozen BK346.out 0; have hfz20_1 := blk_frozen BK346.out 1; have hfz20_2 := blk_frozen BK346.out 2; have hfz20_3 := blk_frozen BK346.out 3; have hcz21_0 : w18.cell? ⟨gb347, 0, none⟩ = some (.int .i64 a1_0) := (blk_cell BK347.out 0).trans rfl; have hcz21_1 : w18.cell? ⟨gb347, 1, none⟩ = some (.int .i64 a1_1) := (blk_cell BK347.out 1).trans rfl; have hcz21_2 : w18.cell? ⟨gb347, 2, none⟩ = some (.int .i64 a1_2) := (blk_cell BK347.out 2).trans rfl; have hcz21_3 : w18.cell? ⟨gb347, 3, none⟩ = some (.slice A1_3 l1_3.length c1_3) := (blk_cell BK347.out 3).trans rfl; have hfz21_0 := blk_frozen BK347.out 0; have hfz21_1 := blk_frozen BK347.out 1; have hfz21_2 := blk_frozen BK347.out 2; have hfz21_3 := blk_frozen BK347.out 3))
   go_ret
   exact ⟨by first | rfl | (simp [errW_none, errW_some] <;> rfl) | (simp [*, errW_none, errW_some] <;> rfl), by repeat (first | (with_reducible first | exact HB.out | apply below_alloc | apply pw_below_drewN | apply below_drew1 | refine below_set ?_ GE346.out | refine below_set ?_ GE347.out) | exact HB.out)⟩
 ·rw [if_neg c3] at H
  have c3b0 : (a0_0 == a1_0) = false := beq_eq_false_iff_ne.mpr c3
  have c3b1 : (a0_0 != a1_0) = true := bne_iff_ne.mpr c3
  obtain rfl := Option.some.inj H
  go_enter Try.func92, Try.ntmps92
  go_wp2_with (first | ((with_reducible refine gate_dst (N := 2) rfl ?_); refine box_event ?hg (N := 2) ?hd (cs := #[.int .i64 a0_0, .int .i64 a0_1, .int .i64 a0_2, .slice A0_3 l0_3.length c0_3]) (t := 124) ?hr ?_; (case hd => rfl); (case hg => rfl); (case hr => first | (go_simp; done) | (go_simp; rfl)); intro gb346 hg w22 hbox hb; have n0_ := Aside0.mk (below_step (by repeat (first | (with_reducible first | exact HB.out | apply below_alloc | apply pw_below_drewN | apply below_drew1) | exact HB.out)) hb); have n1_ := Aside0.mk (hbox); have n2_ := Aside0.mk ((by rw [hg]; exact (below_size (by repeat (first | (with_reducible first | exact HB.out | apply below_alloc | apply pw_below_drewN | apply below_drew1) | exact HB.out))) : w.heap.size ≤ gb346)); have n3_ := Aside0.mk ((by rw [hg]; exact (below_size (by repeat (first | (with_reducible first | exact HB.out | apply below_alloc | apply pw_below_drewN | apply below_drew1) | exact HB.out))) : w.heap.size ≤ gb346)); clear HB; have HB := n0_; have BK346 := n1_; have GW346 := n2_; have GE346 := n3_; clear n0_ n1_ n2_ n3_; clear hb hbox hg) | ((with_reducible refine gate_dst (N := 3) rfl ?_); refine box_event ?hg (N := 3) ?hd (cs := #[.int .i64 a1_0, .int .i64 a1_1, .int .i64 a1_2, .slice A1_3 l1_3.length c1_3]) (t := 124) ?hr ?_; (case hd => rfl); (case hg => rfl); (case hr => first | (go_simp; done) | (go_simp; rfl)); intro gb347 hg w23 hbox hb; have n0_ := Aside0.mk (blk_below (g := gb346) (o := .cells #[.int .i64 a0_0, .int .i64 a0_1, .int .i64 a0_2, .slice A0_3 l0_3.length c0_3] 124 (0, 0)) (by (with_reducible repeat (first | refine blk_drewN ?_ _ | refine blk_drew ?_ | refine blk_alloc ?_ _)); exact BK346.out) hb); have n1_ := Aside0.mk (below_step (by repeat (first | (with_reducible first | exact HB.out | apply below_alloc | apply pw_below_drewN | apply below_drew1 | refine below_set ?_ GE346.out) | exact HB.out)) hb); have n2_ := Aside0.mk (hbox); have n3_ := Aside0.mk ((by rw [hg]; exact (below_size (by repeat (first | (with_reducible first | exact HB.out | apply below_alloc | apply pw_below_drewN | apply below_drew1 | refine below_set ?_ GE346.out) | exact HB.out))) : w.heap.size ≤ gb347)); have n4_ := Aside0.mk ((by rw [hg]; exact (below_size (by repeat (first | (with_reducible first | exact HB.out | apply below_alloc | apply pw_below_drewN | apply below_drew1 | refine below_set ?_ GE346.out) | exact HB.out))) : w.heap.size ≤ gb347)); have n5_ := Aside0.mk ((by rw [hg]; exact Nat.ne_of_lt (blk_lt (g := gb346) (o := .cells #[.int .i64 a0_0, .int .i64 a0_1, .int .i64 a0_2, .slice A0_3 l0_3.length c0_3] 124 (0, 0)) (by (with_reducible repeat (first | refine blk_drewN ?_ _ | refine blk_drew ?_ | refine blk_alloc ?_ _)); exact BK346.out)) : gb346 ≠ gb347)); have n6_ := Aside0.mk ((by rw [hg]; exact Nat.ne_of_gt (blk_lt (g := gb346) (o := .cells #[.int .i64 a0_0, .int .i64 a0_1, .int .i64 a0_2, .slice A0_3 l0_3.length c0_3] 124 (0, 0)) (by (with_reducible repeat (first | refine blk_drewN ?_ _ | refine blk_drew ?_ | refine blk_alloc ?_ _)); exact BK346.out)) : gb347 ≠ gb346)); clear BK346; clear HB; have BK346 := n0_; have HB := n1_; have BK347 := n2_; have GW347 := n3_; have GE347 := n4_; have NB346_347 := n5_; have NB347_346 := n6_; clear n0_ n1_ n2_ n3_ n4_ n5_ n6_; clear hb hbox hg; have hnb24 := NB346_347.out; have hnc24 := NB347_346.out; have hcz25_0 : w23.cell? ⟨gb346, 0, none⟩ = some (.int .i64 a0_0) := (blk_cell BK346.out 0).trans rfl; have hcz25_1 : w23.cell? ⟨gb346, 1, none⟩ = some (.int .i64 a0_1) := (blk_cell BK346.out 1).trans rfl; have hcz25_2 : w23.cell? ⟨gb346, 2, none⟩ = some (.int .i64 a0_2) := (blk_cell BK346.out 2).trans rfl; have hcz25_3 : w23.cell? ⟨gb346, 3, none⟩ = some (.slice A0_3 l0_3.length c0_3) := (blk_cell BK346.out 3).trans rfl; have hfz25_0 := blk_frozen BK346.out 0; have hfz25_1 := blk_frozen BK346.out 1; have hfz25_2 := blk_frozen BK346.out 2; have hfz25_3 := blk_frozen BK346.out 3; have hcz26_0 : w23.cell? ⟨gb347, 0, none⟩ = some (.int .i64 a1_0) := (blk_cell BK347.out 0).trans rfl; have hcz26_1 : w23.cell? ⟨gb347, 1, none⟩ = some (.int .i64 a1_1) := (blk_cell BK347.out 1).trans rfl; have hcz26_2 : w23.cell? ⟨gb347, 2, none⟩ = some (.int .i64 a1_2) := (blk_cell BK347.out 2).trans rfl; have hcz26_3 : w23.cell? ⟨gb347, 3, none⟩ = some (.slice A1_3 l1_3.length c1_3) := (blk_cell BK347.out 3).trans rfl; have hfz26_0 := blk_frozen BK347.out 0; have hfz26_1 := blk_frozen BK347.out 1; have hfz26_2 := blk_frozen BK347.out 2; have hfz26_3 := blk_frozen BK347.out 3))
  go_ret
  exact ⟨by first | rfl | (simp [errW_none, errW_some] <;> rfl) | (simp [*, errW_none, errW_some] <;> rfl), by repeat (first | (with_reducible first | exact HB.out | apply below_alloc | apply pw_below_drewN | apply below_drew1 | refine below_set ?_ GE346.out | refine below_set ?_ GE347.out) | exact HB.out)⟩

def gantryref0_EqTypes.l0 : Nat → List (S124) → List (S124) → Int → Option (Bool)
 | 0, _, _, _ => none
 | k + 1, x0, x1, x5 => if x5 < (x0.length : Int) then (if 0 ≤ x5 then (if x5 < (x1.length : Int) then ((gantryref0_EqType.f k ((rd_T124 x0 x5).f0) ((rd_T124 x0 x5).f1) ((rd_T124 x0 x5).f2) ((rd_T124 x0 x5).f3) ((rd_T124 x1 x5).f0) ((rd_T124 x1 x5).f1) ((rd_T124 x1 x5).f2) ((rd_T124 x1 x5).f3)).bind fun t351 => (if t351 = true then (gantryref0_EqTypes.l0 k x0 x1 (wrap64 (x5 + 1))) else (some false))) else (none)) else (none)) else (some true)
def gantryref0_EqTypes.f (k : Nat) (l0 : List (S124)) (l1 : List (S124)) : Option (Bool) := if (l0.length : Int) = (l1.length : Int) then (gantryref0_EqTypes.l0 k l0 l1 0) else (some false)
def gantryref0_EqTypes.T6 : Bool × List (List Nat × List Nat) := (true, [([], []), ([], []), ([0, 1], [0, 1]), ([2], [2]), ([], []), ([], []), ([4, 5], [4, 5]), ([6], [6]), ([3, 7], [3, 7]), ([8], [8])])
def gantryref0_EqTypes.B6 : List Nat := [0, 0, 3, 7, 0, 0, 48, 112, 255, 511]
theorem gantryref0_EqTypes.tab6 : rtab .any (opsOf Try.f36 6) = gantryref0_EqTypes.T6 := by kernel_rfl
theorem gantryref0_EqTypes.bits6 : waitsOk gantryref0_EqTypes.T6.2 gantryref0_EqTypes.B6 = true := by kernel_rfl
set_option maxHeartbeats 8000000 in
set_option maxRecDepth 100000 in
theorem gantryref0_EqTypes.calls (k : Nat) (A0 : Option Addr) (c0 : Nat) (l0 : List (S124)) (A1 : Option Addr) (c1 : Nat) (l1 : List (S124)) (r : Bool) (w : World) (hr0 : Kd.C k124 w A0 l0.length l0) (hc0 : l0.length ≤ c0) (hr1 : Kd.C k124 w A1 l1.length l1) (hc1 : l1.length ≤ c1) (h : gantryref0_EqTypes.f k l0 l1 = some r) :
  Calls Try.prog 36 #[.slice A0 l0.length c0, .slice A1 l1.length c1] w fun e w' => e = .returned (.bool r) ∧ Below w.heap.size w w' := by
 have hu124 := Try.underlying124
 have HR0 := Aside0.mk hr0
 have HC0 := Aside0.mk hc0
 clear hr0 hc0
 have HR1 := Aside0.mk hr1
 have HC1 := Aside0.mk hc1
 clear hr1 hc1
 have HB := Aside0.mk (Below.refl w.heap.size w)
 have H : (if (l0.length : Int) = (l1.length : Int) then (gantryref0_EqTypes.l0 k l0 l1 0) else (some false)) = some r := h
 clear h
 by_cases c3 : (l0.length : Int) = (l1.length : Int)
 ·rw [if_pos c3] at H
  have c3b0 : ((l0.length : Int) == (l1.length : Int)) = true := beq_iff_eq.mpr c3
  have c3b1 : ((l0.length : Int) != (l1.length : Int)) = false := bne_eq_false_iff_eq.mpr c3
  have c3b2 : (l0.length == l1.length) = true := by first | simpa using c3 | (simp at c3 ⊢; omega)
  clear c3
  have H' := Aside0.mk H
  clear H
  go_enter Try.func36, Try.ntmps36
  go_wp2
  go_loopg [5] k (fun kq v5 w' => ∃ (x5_1 : Int), v5 = .int .i64 x5_1 ∧ Aside0 (gantryref0_EqTypes.l0 kq l0 l1 x5_1 = some r) ∧ Aside0 (kq ≤ k) ∧ Aside0 (Below w.heap.size w w'))
  case atStart => exact ⟨(0), (by first | rfl | (simp; done) | (simp [*]; done)), H', ⟨Nat.le_refl _⟩, ⟨by repeat (first | (with_reducible first | exact HB.out | apply below_alloc | apply pw_below_drewN | apply below_drew1) | exact HB.out)⟩⟩
  case round =>
   clear H'
   try clear c1
   try clear p2
   try clear c3
   try clear c3b0
   try clear c3b1
   try clear c3b2
   obtain ⟨x5_1, rfl, HA, HK1, HB⟩ := hrel
   cases gk with
   | zero => exact absurd HA.out (by simp [gantryref0_EqTypes.l0])
   | succ k1 =>
    have H := HA.out
    clear HA
    simp only [gantryref0_EqTypes.l0] at H
    by_cases c4 : x5_1 < (l0.length : Int)
    ·rw [if_pos c4] at H
     have c4b0 : decide (x5_1 < (l0.length : Int)) = true := decide_eq_true c4
     clear c4
     by_cases c5 : 0 ≤ x5_1
     ·rw [if_pos c5] at H
      have c5b0 : decide (0 ≤ x5_1) = true := decide_eq_true c5
      clear c5
      by_cases c6 : x5_1 < (l1.length : Int)
      ·rw [if_pos c6] at H
       have c6b0 : decide (x5_1 < (l1.length : Int)) = true := decide_eq_true c6
       clear c6
       replace H := Option.bind_eq_some_iff.mp H
       obtain ⟨t351, A70, H⟩ := H
       replace H : (if t351 = true then (gantryref0_EqTypes.l0 k1 l0 l1 (wrap64 (x5_1 + 1))) else (some false)) = some r := H
       have A7 := Aside0.mk A70
       clear A70
       by_cases c8 : t351 = true
       ·subst c8
        have H1 : (gantryref0_EqTypes.l0 k1 l0 l1 (wrap64 (x5_1 + 1))) = some r := by rw [if_pos rfl] at H; exact H
        clear H
        have H := H1
        clear H1
        have H' := Aside0.mk H
        clear H
        try go_wp2
        have n0_ := Aside0.mk (below_drew1 HB.out)
        clear HB
        have HB := n0_
        clear n0_
        have p349 : 0 ≤ (x5_1 : Int) := of_decide_eq_true (by first | (with_reducible assumption) | assumption)
        have q349 : x5_1 < (l0.length : Int) := of_decide_eq_true (by first | (with_reducible assumption) | assumption)
        obtain ⟨ad349, A349_3, c349_3, e349, hx349_0, hx349_1, hx349_2, hx349_3, hl349_3, hi349_3⟩ := at_T124 HR0.out x5_1 p349 q349
        have hw349_3 := hx349_3
        have hw349_2 := hx349_2
        have hw349_1 := hx349_1
        have hw349_0 := hx349_0
        cases e349
        replace hx349_0 := (HB.out.cell (World.block_lt_of_cell? w _ hx349_0)).trans hx349_0
        replace hx349_1 := (HB.out.cell (World.block_lt_of_cell? w _ hx349_1)).trans hx349_1
        replace hx349_2 := (HB.out.cell (World.block_lt_of_cell? w _ hx349_2)).trans hx349_2
        replace hx349_3 := (HB.out.cell (World.block_lt_of_cell? w _ hx349_3)).trans hx349_3
        have HR349_3 := Aside0.mk hi349_3
        have HC349_3 := Aside0.mk hl349_3
        clear hi349_3 hl349_3
        replace p349 := eq_true p349
        replace q349 := eq_true q349
        have p350 : 0 ≤ (x5_1 : Int) := of_decide_eq_true (by first | (with_reducible assumption) | assumption)
        have q350 : x5_1 < (l1.length : Int) := of_decide_eq_true (by first | (with_reducible assumption) | assumption)
        obtain ⟨ad350, A350_3, c350_3, e350, hx350_0, hx350_1, hx350_2, hx350_3, hl350_3, hi350_3⟩ := at_T124 HR1.out x5_1 p350 q350
        have hw350_3 := hx350_3
        have hw350_2 := hx350_2
        have hw350_1 := hx350_1
        have hw350_0 := hx350_0
        cases e350
        replace hx350_0 := (HB.out.cell (World.block_lt_of_cell? w _ hx350_0)).trans hx350_0
        replace hx350_1 := (HB.out.cell (World.block_lt_of_cell? w _ hx350_1)).trans hx350_1
        replace hx350_2 := (HB.out.cell (World.block_lt_of_cell? w _ hx350_2)).trans hx350_2
        replace hx350_3 := (HB.out.cell (World.block_lt_of_cell? w _ hx350_3)).trans hx350_3
        have HR350_3 := Aside0.mk hi350_3
        have HC350_3 := Aside0.mk hl350_3
        clear hi350_3 hl350_3
        replace p350 := eq_true p350
        replace q350 := eq_true q350
        refine start_ (n := 10) (S := fun w' => w'.cell? (ad349.add ((x5_1).toNat * 4)) = some (.int .i64 ((rd_T124 l0 x5_1).f0)) ∧ w'.cell? ⟨(ad349.add ((x5_1).toNat * 4)).block, (ad349.add ((x5_1).toNat * 4)).off + 1, none⟩ = some (.int .i64 ((rd_T124 l0 x5_1).f1)) ∧ w'.cell? ⟨(ad349.add ((x5_1).toNat * 4)).block, (ad349.add ((x5_1).toNat * 4)).off + 2, none⟩ = some (.int .i64 ((rd_T124 l0 x5_1).f2)) ∧ w'.cell? ⟨(ad349.add ((x5_1).toNat * 4)).block, (ad349.add ((x5_1).toNat * 4)).off + 3, none⟩ = some (.slice A349_3 ((rd_T124 l0 x5_1).f3).length c349_3) ∧ w'.cell? (ad350.add ((x5_1).toNat * 4)) = some (.int .i64 ((rd_T124 l1 x5_1).f0)) ∧ w'.cell? ⟨(ad350.add ((x5_1).toNat * 4)).block, (ad350.add ((x5_1).toNat * 4)).off + 1, none⟩ = some (.int .i64 ((rd_T124 l1 x5_1).f1)) ∧ w'.cell? ⟨(ad350.add ((x5_1).toNat * 4)).block, (ad350.add ((x5_1).toNat * 4)).off + 2, none⟩ = some (.int .i64 ((rd_T124 l1 x5_1).f2)) ∧ w'.cell? ⟨(ad350.add ((x5_1).toNat * 4)).block, (ad350.add ((x5_1).toNat * 4)).off + 3, none⟩ = some (.slice A350_3 ((rd_T124 l1 x5_1).f3).length c350_3)) (ds := []) #[false, false, false, false, false, false, false, false, false, false] (by kernel_rfl) rfl rfl ⟨((HB.out.cell (World.block_lt_of_cell? w _ hw349_0)).trans hw349_0), ((HB.out.cell (World.block_lt_of_cell? w _ hw349_1)).trans hw349_1), ((HB.out.cell (World.block_lt_of_cell? w _ hw349_2)).trans hw349_2), ((HB.out.cell (World.block_lt_of_cell? w _ hw349_3)).trans hw349_3), ((HB.out.cell (World.block_lt_of_cell? w _ hw350_0)).trans hw350_0), ((HB.out.cell (World.block_lt_of_cell? w _ hw350_1)).trans hw350_1), ((HB.out.cell (World.block_lt_of_cell? w _ hw350_2)).trans hw350_2), ((HB.out.cell (World.block_lt_of_cell? w _ hw350_3)).trans hw350_3)⟩ (fun hHeld => ?_); refine with_tabW gantryref0_EqTypes.tab6 gantryref0_EqTypes.bits6 (fun HT_ HW_ => ?_)
        generalize wr.drew = w9 at HB HR349_3 HR350_3 hx349_0 hx349_1 hx349_2 hx349_3 hx350_0 hx350_1 hx350_2 hx350_3 hHeld ⊢
        refine pure_ (i := 0) (N := some 17) (v := ?_) (a' := ?_) #[true, false, false, false, false, false, false, false, false, false] rfl rfl (any_of HT_.out (by kernel_rfl)) (fun _ _ _ h => h) (Or.inl ⟨by rfl, ?_⟩) ?_ ?_
        rotate_left
        ·intro w'
         go_simp
         with_reducible rfl
        rotate_left
        ·simp only [Act.put, List.setIfInBounds_toArray, List.set_cons_zero, List.set_cons_succ, i64_w, i32_w]
         rfl
        refine pure_ (i := 1) (N := some 18) (v := ?_) (a' := ?_) #[true, true, false, false, false, false, false, false, false, false] rfl rfl (any_of HT_.out (by kernel_rfl)) (fun _ _ _ h => h) (Or.inl ⟨by rfl, ?_⟩) ?_ ?_
        rotate_left
        ·intro w'
         go_simp
         with_reducible rfl
        rotate_left
        ·simp only [Act.put, List.setIfInBounds_toArray, List.set_cons_zero, List.set_cons_succ, i64_w, i32_w]
         rfl
        refine pure_ (i := 2) (N := some 19) (v := ?_) (a' := ?_) #[true, true, true, false, false, false, false, false, false, false] rfl rfl (any_of HT_.out (by kernel_rfl)) (fun _ _ _ h => h) (Or.inl ⟨by rfl, ?_⟩) ?_ ?_
        rotate_left
        ·intro w'
         go_simp
         with_reducible rfl
        rotate_left
        ·simp only [Act.put, List.setIfInBounds_toArray, List.set_cons_zero, List.set_cons_succ, i64_w, i32_w]
         rfl
        refine pure_ (i := 4) (N := some 21) (v := ?_) (a' := ?_) #[true, true, true, false, true, false, false, false, false, false] rfl rfl (any_of HT_.out (by kernel_rfl)) (fun _ _ _ h => h) (Or.inl ⟨by rfl, ?_⟩) ?_ ?_
        rotate_left
        ·intro w'
         go_simp
         with_reducible rfl
        rotate_left
        ·simp only [Act.put, List.setIfInBounds_toArray, List.set_cons_zero, List.set_cons_succ, i64_w, i32_w]
         rfl
        refine pure_ (i := 5) (N := some 22) (v := ?_) (a' := ?_) #[true, true, true, false, true, true, false, false, false, false] rfl rfl (any_of HT_.out (by kernel_rfl)) (fun _ _ _ h => h) (Or.inl ⟨by rfl, ?_⟩) ?_ ?_
        rotate_left
        ·intro w'
         go_simp
         with_reducible rfl
        rotate_left
        ·simp only [Act.put, List.setIfInBounds_toArray, List.set_cons_zero, List.set_cons_succ, i64_w, i32_w]
         rfl
        refine pure_ (i := 6) (N := some 23) (v := ?_) (a' := ?_) #[true, true, true, false, true, true, true, false, false, false] rfl rfl (any_of HT_.out (by kernel_rfl)) (fun _ _ _ h => h) (Or.inl ⟨by rfl, ?_⟩) ?_ ?_
        rotate_left
        ·intro w'
         go_simp
         with_reducible rfl
        rotate_left
        ·simp only [Act.put, List.setIfInBounds_toArray, List.set_cons_zero, List.set_cons_succ, i64_w, i32_w]
         rfl
        refine take_ (i := 3) (N := some 20) (v := ?_) (a' := ?_) #[true, true, true, true, true, true, true, false, false, false] rfl rfl (take_ofW HT_.out HW_.out (by kernel_rfl)) (fun _ _ _ h => h) (Or.inl ⟨by rfl, ?_⟩) hHeld ?_ ?_
        rotate_left
        ·rintro w' ⟨s0, s1, s2, s3, s4, s5, s6, s7⟩
         go_simp
         with_reducible rfl
        rotate_left
        ·simp only [Act.put, List.setIfInBounds_toArray, List.set_cons_zero, List.set_cons_succ, i64_w, i32_w]
         rfl
        refine take_ (i := 7) (N := some 24) (v := ?_) (a' := ?_) #[true, true, true, true, true, true, true, true, false, false] rfl rfl (take_ofW HT_.out HW_.out (by kernel_rfl)) (fun _ _ _ h => h) (Or.inl ⟨by rfl, ?_⟩) hHeld ?_ ?_
        rotate_left
        ·rintro w' ⟨s0, s1, s2, s3, s4, s5, s6, s7⟩
         go_simp
         with_reducible rfl
        rotate_left
        ·simp only [Act.put, List.setIfInBounds_toArray, List.set_cons_zero, List.set_cons_succ, i64_w, i32_w]
         rfl
        refine one_ (i := 8) (N := some 25) #[true, true, true, true, true, true, true, true, true, false] rfl rfl (one_of HT_.out (by kernel_rfl)) (by decide) (fun K hK => ?_)
        refine goes_ Try.func92 (by kernel_rfl) rfl #[.agg #[.int .i64 ((rd_T124 l0 x5_1).f0), .int .i64 ((rd_T124 l0 x5_1).f1), .int .i64 ((rd_T124 l0 x5_1).f2), .slice A349_3 ((rd_T124 l0 x5_1).f3).length c349_3], .agg #[.int .i64 ((rd_T124 l1 x5_1).f0), .int .i64 ((rd_T124 l1 x5_1).f1), .int .i64 ((rd_T124 l1 x5_1).f2), .slice A350_3 ((rd_T124 l1 x5_1).f3).length c350_3]] (by rfl) rfl rfl (by (try simp only [List.map_toArray, List.map_cons, List.map_nil]); first | done | rfl | (simp only [List.length_drop, List.length_take]; rfl)) ?_
        with_reducible refine (gantryref0_EqType.calls k1 ((rd_T124 l0 x5_1).f0) ((rd_T124 l0 x5_1).f1) ((rd_T124 l0 x5_1).f2) _ _ ((rd_T124 l0 x5_1).f3) ((rd_T124 l1 x5_1).f0) ((rd_T124 l1 x5_1).f1) ((rd_T124 l1 x5_1).f2) _ _ ((rd_T124 l1 x5_1).f3) true _ ?side1 ?side2 ?side3 ?side4 A7.out).mono ?_
        (case side1 => repeat (first | exact (Kd.C_below HR349_3.out HB.out) | (with_reducible refine Kd.C_alloc ?_ _) | (with_reducible refine Kd.C_drewN ?_ _) | (with_reducible refine Kd.C_drew ?_)))
        (case side2 => exact HC349_3.out)
        (case side3 => repeat (first | exact (Kd.C_below HR350_3.out HB.out) | (with_reducible refine Kd.C_alloc ?_ _) | (with_reducible refine Kd.C_drewN ?_ _) | (with_reducible refine Kd.C_drew ?_)))
        (case side4 => exact HC350_3.out)
        rintro e w10 ⟨rfl, hb⟩
        refine ⟨_, rfl, ?_⟩
        have n0_ := Aside0.mk (below_step (by repeat (first | (with_reducible first | exact HB.out | apply below_alloc | apply pw_below_drewN | apply below_drew1) | exact HB.out)) hb)
        clear HB
        have HB := n0_
        clear n0_
        (try clear hb)
        (try clear hb2)
        (try clear hk)
        (try clear hi)
        refine hK.out _ _ ⟨((HB.out.cell (World.block_lt_of_cell? w _ hw349_0)).trans hw349_0), ((HB.out.cell (World.block_lt_of_cell? w _ hw349_1)).trans hw349_1), ((HB.out.cell (World.block_lt_of_cell? w _ hw349_2)).trans hw349_2), ((HB.out.cell (World.block_lt_of_cell? w _ hw349_3)).trans hw349_3), ((HB.out.cell (World.block_lt_of_cell? w _ hw350_0)).trans hw350_0), ((HB.out.cell (World.block_lt_of_cell? w _ hw350_1)).trans hw350_1), ((HB.out.cell (World.block_lt_of_cell? w _ hw350_2)).trans hw350_2), ((HB.out.cell (World.block_lt_of_cell? w _ hw350_3)).trans hw350_3)⟩ (fun hHeld => ?_)
        clear hK K
        refine norm_ (a' := ?_) ?_ ?_
        rotate_left
        ·show Act.put _ (some 25) _ = _
         simp only [Act.put, List.setIfInBounds_toArray, List.set_cons_zero, List.set_cons_succ, i64_w, i32_w]
         rfl
        refine pure_ (i := 9) (N := some 26) (v := ?_) (a' := ?_) #[true, true, true, true, true, true, true, true, true, true] rfl rfl (any_of HT_.out (by kernel_rfl)) (fun _ _ _ h => h) (Or.inl ⟨by rfl, ?_⟩) ?_ ?_
        rotate_left
        ·intro w'
         go_simp
         with_reducible rfl
        rotate_left
        ·simp only [Act.put, List.setIfInBounds_toArray, List.set_cons_zero, List.set_cons_succ, i64_w, i32_w]
         rfl
        refine done_ (done_of HT_.out (by kernel_rfl)) ?_
        try go_wp2
        go_roundg k1
        case measure => have := HK1.out; omega
        case rel => exact ⟨(wrap64 (x5_1 + 1)), (by first | rfl | (simp; done) | (simp [*]; done)), H', ⟨by have := HK1.out; omega⟩, ⟨by repeat (first | (with_reducible first | exact HB.out | apply below_alloc | apply pw_below_drewN | apply below_drew1) | exact HB.out)⟩⟩
       ·replace c8 := Bool.eq_false_iff.mpr c8
        subst c8
        have H1 : (some false) = some r := by rw [if_neg (show ¬ (false = true) by decide)] at H; exact H
        clear H
        have H := H1
        clear H1
        obtain rfl := Option.some.inj H
        try go_wp2
        have n0_ := Aside0.mk (below_drew1 HB.out)
        clear HB
        have HB := n0_
        clear n0_
        have p349 : 0 ≤ (x5_1 : Int) := of_decide_eq_true (by first | (with_reducible assumption) | assumption)
        have q349 : x5_1 < (l0.length : Int) := of_decide_eq_true (by first | (with_reducible assumption) | assumption)
        obtain ⟨ad349, A349_3, c349_3, e349, hx349_0, hx349_1, hx349_2, hx349_3, hl349_3, hi349_3⟩ := at_T124 HR0.out x5_1 p349 q349
        have hw349_3 := hx349_3
        have hw349_2 := hx349_2
        have hw349_1 := hx349_1
        have hw349_0 := hx349_0
        cases e349
        replace hx349_0 := (HB.out.cell (World.block_lt_of_cell? w _ hx349_0)).trans hx349_0
        replace hx349_1 := (HB.out.cell (World.block_lt_of_cell? w _ hx349_1)).trans hx349_1
        replace hx349_2 := (HB.out.cell (World.block_lt_of_cell? w _ hx349_2)).trans hx349_2
        replace hx349_3 := (HB.out.cell (World.block_lt_of_cell? w _ hx349_3)).trans hx349_3
        have HR349_3 := Aside0.mk hi349_3
        have HC349_3 := Aside0.mk hl349_3
        clear hi349_3 hl349_3
        replace p349 := eq_true p349
        replace q349 := eq_true q349
        have p350 : 0 ≤ (x5_1 : Int) := of_decide_eq_true (by first | (with_reducible assumption) | assumption)
        have q350 : x5_1 < (l1.length : Int) := of_decide_eq_true (by first | (with_reducible assumption) | assumption)
        obtain ⟨ad350, A350_3, c350_3, e350, hx350_0, hx350_1, hx350_2, hx350_3, hl350_3, hi350_3⟩ := at_T124 HR1.out x5_1 p350 q350
        have hw350_3 := hx350_3
        have hw350_2 := hx350_2
        have hw350_1 := hx350_1
        have hw350_0 := hx350_0
        cases e350
        replace hx350_0 := (HB.out.cell (World.block_lt_of_cell? w _ hx350_0)).trans hx350_0
        replace hx350_1 := (HB.out.cell (World.block_lt_of_cell? w _ hx350_1)).trans hx350_1
        replace hx350_2 := (HB.out.cell (World.block_lt_of_cell? w _ hx350_2)).trans hx350_2
        replace hx350_3 := (HB.out.cell (World.block_lt_of_cell? w _ hx350_3)).trans hx350_3
        have HR350_3 := Aside0.mk hi350_3
        have HC350_3 := Aside0.mk hl350_3
        clear hi350_3 hl350_3
        replace p350 := eq_true p350
        replace q350 := eq_true q350
        refine start_ (n := 10) (S := fun w' => w'.cell? (ad349.add ((x5_1).toNat * 4)) = some (.int .i64 ((rd_T124 l0 x5_1).f0)) ∧ w'.cell? ⟨(ad349.add ((x5_1).toNat * 4)).block, (ad349.add ((x5_1).toNat * 4)).off + 1, none⟩ = some (.int .i64 ((rd_T124 l0 x5_1).f1)) ∧ w'.cell? ⟨(ad349.add ((x5_1).toNat * 4)).block, (ad349.add ((x5_1).toNat * 4)).off + 2, none⟩ = some (.int .i64 ((rd_T124 l0 x5_1).f2)) ∧ w'.cell? ⟨(ad349.add ((x5_1).toNat * 4)).block, (ad349.add ((x5_1).toNat * 4)).off + 3, none⟩ = some (.slice A349_3 ((rd_T124 l0 x5_1).f3).length c349_3) ∧ w'.cell? (ad350.add ((x5_1).toNat * 4)) = some (.int .i64 ((rd_T124 l1 x5_1).f0)) ∧ w'.cell? ⟨(ad350.add ((x5_1).toNat * 4)).block, (ad350.add ((x5_1).toNat * 4)).off + 1, none⟩ = some (.int .i64 ((rd_T124 l1 x5_1).f1)) ∧ w'.cell? ⟨(ad350.add ((x5_1).toNat * 4)).block, (ad350.add ((x5_1).toNat * 4)).off + 2, none⟩ = some (.int .i64 ((rd_T124 l1 x5_1).f2)) ∧ w'.cell? ⟨(ad350.add ((x5_1).toNat * 4)).block, (ad350.add ((x5_1).toNat * 4)).off + 3, none⟩ = some (.slice A350_3 ((rd_T124 l1 x5_1).f3).length c350_3)) (ds := []) #[false, false, false, false, false, false, false, false, false, false] (by kernel_rfl) rfl rfl ⟨((HB.out.cell (World.block_lt_of_cell? w _ hw349_0)).trans hw349_0), ((HB.out.cell (World.block_lt_of_cell? w _ hw349_1)).trans hw349_1), ((HB.out.cell (World.block_lt_of_cell? w _ hw349_2)).trans hw349_2), ((HB.out.cell (World.block_lt_of_cell? w _ hw349_3)).trans hw349_3), ((HB.out.cell (World.block_lt_of_cell? w _ hw350_0)).trans hw350_0), ((HB.out.cell (World.block_lt_of_cell? w _ hw350_1)).trans hw350_1), ((HB.out.cell (World.block_lt_of_cell? w _ hw350_2)).trans hw350_2), ((HB.out.cell (World.block_lt_of_cell? w _ hw350_3)).trans hw350_3)⟩ (fun hHeld => ?_); refine with_tabW gantryref0_EqTypes.tab6 gantryref0_EqTypes.bits6 (fun HT_ HW_ => ?_)
        generalize wr.drew = w11 at HB HR349_3 HR350_3 hx349_0 hx349_1 hx349_2 hx349_3 hx350_0 hx350_1 hx350_2 hx350_3 hHeld ⊢
        refine pure_ (i := 0) (N := some 17) (v := ?_) (a' := ?_) #[true, false, false, false, false, false, false, false, false, false] rfl rfl (any_of HT_.out (by kernel_rfl)) (fun _ _ _ h => h) (Or.inl ⟨by rfl, ?_⟩) ?_ ?_
        rotate_left
        ·intro w'
         go_simp
         with_reducible rfl
        rotate_left
        ·simp only [Act.put, List.setIfInBounds_toArray, List.set_cons_zero, List.set_cons_succ, i64_w, i32_w]
         rfl
        refine pure_ (i := 1) (N := some 18) (v := ?_) (a' := ?_) #[true, true, false, false, false, false, false, false, false, false] rfl rfl (any_of HT_.out (by kernel_rfl)) (fun _ _ _ h => h) (Or.inl ⟨by rfl, ?_⟩) ?_ ?_
        rotate_left
        ·intro w'
         go_simp
         with_reducible rfl
        rotate_left
        ·simp only [Act.put, List.setIfInBounds_toArray, List.set_cons_zero, List.set_cons_succ, i64_w, i32_w]
         rfl
        refine pure_ (i := 2) (N := some 19) (v := ?_) (a' := ?_) #[true, true, true, false, false, false, false, false, false, false] rfl rfl (any_of HT_.out (by kernel_rfl)) (fun _ _ _ h => h) (Or.inl ⟨by rfl, ?_⟩) ?_ ?_
        rotate_left
        ·intro w'
         go_simp
         with_reducible rfl
        rotate_left
        ·simp only [Act.put, List.setIfInBounds_toArray, List.set_cons_zero, List.set_cons_succ, i64_w, i32_w]
         rfl
        refine pure_ (i := 4) (N := some 21) (v := ?_) (a' := ?_) #[true, true, true, false, true, false, false, false, false, false] rfl rfl (any_of HT_.out (by kernel_rfl)) (fun _ _ _ h => h) (Or.inl ⟨by rfl, ?_⟩) ?_ ?_
        rotate_left
        ·intro w'
         go_simp
         with_reducible rfl
        rotate_left
        ·simp only [Act.put, List.setIfInBounds_toArray, List.set_cons_zero, List.set_cons_succ, i64_w, i32_w]
         rfl
        refine pure_ (i := 5) (N := some 22) (v := ?_) (a' := ?_) #[true, true, true, false, true, true, false, false, false, false] rfl rfl (any_of HT_.out (by kernel_rfl)) (fun _ _ _ h => h) (Or.inl ⟨by rfl, ?_⟩) ?_ ?_
        rotate_left
        ·intro w'
         go_simp
         with_reducible rfl
        rotate_left
        ·simp only [Act.put, List.setIfInBounds_toArray, List.set_cons_zero, List.set_cons_succ, i64_w, i32_w]
         rfl
        refine pure_ (i := 6) (N := some 23) (v := ?_) (a' := ?_) #[true, true, true, false, true, true, true, false, false, false] rfl rfl (any_of HT_.out (by kernel_rfl)) (fun _ _ _ h => h) (Or.inl ⟨by rfl, ?_⟩) ?_ ?_
        rotate_left
        ·intro w'
         go_simp
         with_reducible rfl
        rotate_left
        ·simp only [Act.put, List.setIfInBounds_toArray, List.set_cons_zero, List.set_cons_succ, i64_w, i32_w]
         rfl
        refine take_ (i := 3) (N := some 20) (v := ?_) (a' := ?_) #[true, true, true, true, true, true, true, false, false, false] rfl rfl (take_ofW HT_.out HW_.out (by kernel_rfl)) (fun _ _ _ h => h) (Or.inl ⟨by rfl, ?_⟩) hHeld ?_ ?_
        rotate_left
        ·rintro w' ⟨s0, s1, s2, s3, s4, s5, s6, s7⟩
         go_simp
         with_reducible rfl
        rotate_left
        ·simp only [Act.put, List.setIfInBounds_toArray, List.set_cons_zero, List.set_cons_succ, i64_w, i32_w]
         rfl
        refine take_ (i := 7) (N := some 24) (v := ?_) (a' := ?_) #[true, true, true, true, true, true, true, true, false, false] rfl rfl (take_ofW HT_.out HW_.out (by kernel_rfl)) (fun _ _ _ h => h) (Or.inl ⟨by rfl, ?_⟩) hHeld ?_ ?_
        rotate_left
        ·rintro w' ⟨s0, s1, s2, s3, s4, s5, s6, s7⟩
         go_simp
         with_reducible rfl
        rotate_left
        ·simp only [Act.put, List.setIfInBounds_toArray, List.set_cons_zero, List.set_cons_succ, i64_w, i32_w]
         rfl
        refine one_ (i := 8) (N := some 25) #[true, true, true, true, true, true, true, true, true, false] rfl rfl (one_of HT_.out (by kernel_rfl)) (by decide) (fun K hK => ?_)
        refine goes_ Try.func92 (by kernel_rfl) rfl #[.agg #[.int .i64 ((rd_T124 l0 x5_1).f0), .int .i64 ((rd_T124 l0 x5_1).f1), .int .i64 ((rd_T124 l0 x5_1).f2), .slice A349_3 ((rd_T124 l0 x5_1).f3).length c349_3], .agg #[.int .i64 ((rd_T124 l1 x5_1).f0), .int .i64 ((rd_T124 l1 x5_1).f1), .int .i64 ((rd_T124 l1 x5_1).f2), .slice A350_3 ((rd_T124 l1 x5_1).f3).length c350_3]] (by rfl) rfl rfl (by (try simp only [List.map_toArray, List.map_cons, List.map_nil]); first | done | rfl | (simp only [List.length_drop, List.length_take]; rfl)) ?_
        with_reducible refine (gantryref0_EqType.calls k1 ((rd_T124 l0 x5_1).f0) ((rd_T124 l0 x5_1).f1) ((rd_T124 l0 x5_1).f2) _ _ ((rd_T124 l0 x5_1).f3) ((rd_T124 l1 x5_1).f0) ((rd_T124 l1 x5_1).f1) ((rd_T124 l1 x5_1).f2) _ _ ((rd_T124 l1 x5_1).f3) false _ ?side1 ?side2 ?side3 ?side4 A7.out).mono ?_
        (case side1 => repeat (first | exact (Kd.C_below HR349_3.out HB.out) | (with_reducible refine Kd.C_alloc ?_ _) | (with_reducible refine Kd.C_drewN ?_ _) | (with_reducible refine Kd.C_drew ?_)))
        (case side2 => exact HC349_3.out)
        (case side3 => repeat (first | exact (Kd.C_below HR350_3.out HB.out) | (with_reducible refine Kd.C_alloc ?_ _) | (with_reducible refine Kd.C_drewN ?_ _) | (with_reducible refine Kd.C_drew ?_)))
        (case side4 => exact HC350_3.out)
        rintro e w12 ⟨rfl, hb⟩
        refine ⟨_, rfl, ?_⟩
        have n0_ := Aside0.mk (below_step (by repeat (first | (with_reducible first | exact HB.out | apply below_alloc | apply pw_below_drewN | apply below_drew1) | exact HB.out)) hb)
        clear HB
        have HB := n0_
        clear n0_
        (try clear hb)
        (try clear hb2)
        (try clear hk)
        (try clear hi)
        refine hK.out _ _ ⟨((HB.out.cell (World.block_lt_of_cell? w _ hw349_0)).trans hw349_0), ((HB.out.cell (World.block_lt_of_cell? w _ hw349_1)).trans hw349_1), ((HB.out.cell (World.block_lt_of_cell? w _ hw349_2)).trans hw349_2), ((HB.out.cell (World.block_lt_of_cell? w _ hw349_3)).trans hw349_3), ((HB.out.cell (World.block_lt_of_cell? w _ hw350_0)).trans hw350_0), ((HB.out.cell (World.block_lt_of_cell? w _ hw350_1)).trans hw350_1), ((HB.out.cell (World.block_lt_of_cell? w _ hw350_2)).trans hw350_2), ((HB.out.cell (World.block_lt_of_cell? w _ hw350_3)).trans hw350_3)⟩ (fun hHeld => ?_)
        clear hK K
        refine norm_ (a' := ?_) ?_ ?_
        rotate_left
        ·show Act.put _ (some 25) _ = _
         simp only [Act.put, List.setIfInBounds_toArray, List.set_cons_zero, List.set_cons_succ, i64_w, i32_w]
         rfl
        refine pure_ (i := 9) (N := some 26) (v := ?_) (a' := ?_) #[true, true, true, true, true, true, true, true, true, true] rfl rfl (any_of HT_.out (by kernel_rfl)) (fun _ _ _ h => h) (Or.inl ⟨by rfl, ?_⟩) ?_ ?_
        rotate_left
        ·intro w'
         go_simp
         with_reducible rfl
        rotate_left
        ·simp only [Act.put, List.setIfInBounds_toArray, List.set_cons_zero, List.set_cons_succ, i64_w, i32_w]
         rfl
        refine done_ (done_of HT_.out (by kernel_rfl)) ?_
        try go_wp2
        go_ret
        exact ⟨by first | rfl | (simp [errW_none, errW_some] <;> rfl) | (simp [*, errW_none, errW_some] <;> rfl), by repeat (first | (with_reducible first | exact HB.out | apply below_alloc | apply pw_below_drewN | apply below_drew1) | exact HB.out)⟩
      ·rw [if_neg c6] at H
       exact absurd H (by simp)
     ·rw [if_neg c5] at H
      exact absurd H (by simp)
    ·rw [if_neg c4] at H
     have c4b0 : decide (x5_1 < (l0.length : Int)) = false := decide_eq_false c4
     clear c4
     obtain rfl := Option.some.inj H
     go_wp2
     go_ret
     exact ⟨by first | rfl | (simp [errW_none, errW_some] <;> rfl) | (simp [*, errW_none, errW_some] <;> rfl), by repeat (first | (with_reducible first | exact HB.out | apply below_alloc | apply pw_below_drewN | apply below_drew1) | exact HB.out)⟩
 ·rw [if_neg c3] at H
  have c3b0 : ((l0.length : Int) == (l1.length : Int)) = false := beq_eq_false_iff_ne.mpr c3
  have c3b1 : ((l0.length : Int) != (l1.length : Int)) = true := bne_iff_ne.mpr c3
  have c3b2 : (l0.length == l1.length) = false := by first | simpa using c3 | (simp at c3 ⊢; omega)
  obtain rfl := Option.some.inj H
  go_enter Try.func36, Try.ntmps36
  go_wp2
  go_ret
  exact ⟨by first | rfl | (simp [errW_none, errW_some] <;> rfl) | (simp [*, errW_none, errW_some] <;> rfl), by repeat (first | (with_reducible first | exact HB.out | apply below_alloc | apply pw_below_drewN | apply below_drew1) | exact HB.out)⟩

def gantrylaw11_num.f (a0 : Int) : Option (Int) := some a0
set_option maxHeartbeats 8000000 in
set_option maxRecDepth 100000 in
theorem gantrylaw11_num.calls (a0 : Int) (r : Int) (w : World) (h : gantrylaw11_num.f a0 = some r) :
  Calls Try.prog 40 #[.int .i64 a0] w fun e w' => e = .returned (.int .i64 r) ∧ Drawn0 w w' := by
 have H : (some a0) = some r := h
 clear h
 obtain rfl := Option.some.inj H
 go_enter Try.func40, Try.ntmps40
 go_wp2
 go_ret
 exact ⟨by first | rfl | (simp; done) | (simp [*]; done), by repeat (first | exact Drawn0.refl _ | apply Drawn0.step)⟩

end Go.Proofs.Ytekoogedhmhpgaa.Q

