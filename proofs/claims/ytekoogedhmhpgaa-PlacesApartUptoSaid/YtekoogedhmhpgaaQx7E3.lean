-- PRINTED by print.py (a twelfth state) out of the translation. Not trusted: Lean checks it.
import Derived.Test.YtekoogedhmhpgaaQx0E3
import Derived.Test.YtekoogedhmhpgaaQx2E3
import Derived.Test.YtekoogedhmhpgaaQx6E3
namespace Go.Proofs.Ytekoogedhmhpgaa.Q
open Go.RowKit Go.Proofs.YtekoogedhmhpgaaW.PrintWords Go.Proofs.YtekoogedhmhpgaaW.PrintLast Go.Proofs.YtekoogedhmhpgaaW.PrintMore
attribute [local go_sem] max2_int min2_int max_two min_two max_three min_three max_four min_four   -- for this text's walks alone
set_option linter.unusedVariables false
set_option linter.unusedSimpArgs false

def gantryref7_Scalar.f (a0 : Int) : Option (Bool) := (gantryref1_Word.f a0).bind fun t221 => (some t221)
set_option maxHeartbeats 8000000 in
set_option maxRecDepth 100000 in
theorem gantryref7_Scalar.calls (a0 : Int) (r : Bool) (w : World) (h : gantryref7_Scalar.f a0 = some r) :
  Calls Try.prog 154 #[.int .i64 a0] w fun e w' => e = .returned (.bool r) ∧ Drawn0 w w' := by
 have H : ((gantryref1_Word.f a0).bind fun t221 => (some t221)) = some r := h
 clear h
 replace H := Option.bind_eq_some_iff.mp H
 obtain ⟨t221, A20, H⟩ := H
 replace H : (some t221) = some r := H
 have A2 := Aside0.mk A20
 clear A20
 obtain rfl := Option.some.inj H
 go_enter Try.func154, Try.ntmps154
 go_wp2_with (first | ((with_reducible refine gate_callee (f := 58) rfl ?_); refine goesL_ (some 4) rfl rfl Try.func58 (by kernel_rfl) rfl #[.int .i64 a0] rfl (by (try simp only [List.map_toArray, List.map_cons, List.map_nil]); first | done | rfl | (simp only [List.length_drop, List.length_take]; rfl)) ?_; (with_reducible refine (gantryref1_Word.calls a0 t221 _ A2.out).mono ?_); rintro e w' ⟨rfl, ⟨nd, rfl⟩⟩; refine ⟨_, rfl, ?_⟩))
 go_ret
 exact ⟨by first | rfl | (simp; done) | (simp [*]; done), by repeat (first | exact Drawn0.refl _ | apply Drawn0.step)⟩

mutual
def gantryref7_entry.j0 : Nat → Int → Bool → Int → Int → Int → List Int → Option (Bool)
 | 0, _, _, _, _, _, _ => none
 | k + 1, x1, x7, x223000, x223001, x223002, x223003 => if x223000 = 11 then (gantryref7_entry.j1 k x1 x7 x223000 (x223000 == 11) x223000 x223001 x223002 x223003) else (gantryref7_entry.j1 k x1 x7 x223000 (x223000 == 14) x223000 x223001 x223002 x223003)
def gantryref7_entry.j1 : Nat → Int → Bool → Int → Bool → Int → Int → Int → List Int → Option (Bool)
 | 0, _, _, _, _, _, _, _, _ => none
 | k + 1, x1, x7, x18, x19, x223000, x223001, x223002, x223003 => if x19 = true then (if x7 = true then (if x223002 = 0 then (some ((x223003.length : Int) == 0)) else (some false)) else (some false)) else (if x18 = 12 then (if x223001 ≥ 0 then (if x223001 < x1 then (if x223002 ≥ 0 then (if x223002 ≤ 65536 then (some ((x223003.length : Int) == 0)) else (some false)) else (some false)) else (some false)) else (some false)) else (if x18 = 13 then (if x223001 = 0 then (if x223002 = 0 then (if (x223003.length : Int) ≤ 16 then ((gantryref7_ahead.f k x223003 x1).bind fun t223 => (some t223)) else (some false)) else (some false)) else (some false)) else (if x18 = 15 then (if x223001 = 0 then (if x223002 = 0 then (some ((x223003.length : Int) == 0)) else (some false)) else (some false)) else ((gantryref7_Scalar.f x223000).bind fun t224 => (if t224 = true then (if x223001 = 0 then (if x223002 = 0 then (some ((x223003.length : Int) == 0)) else (some false)) else (some false)) else (some false))))))
end
def gantryref7_entry.f (k : Nat) (a0_0 : Int) (a0_1 : Int) (a0_2 : Int) (l0_3 : List Int) (a1 : Int) (a2 : Int) : Option (Bool) := if a0_1 ≥ 0 then (gantryref7_entry.j0 k a1 (decide (a0_1 < a2)) a0_0 a0_1 a0_2 l0_3) else (gantryref7_entry.j0 k a1 false a0_0 a0_1 a0_2 l0_3)
set_option maxHeartbeats 8000000 in
set_option maxRecDepth 100000 in
theorem gantryref7_entry.calls (k : Nat) (a0_0 : Int) (a0_1 : Int) (a0_2 : Int) (A0_3 : Option Addr) (c0_3 : Nat) (l0_3 : List Int) (a1 : Int) (a2 : Int) (r : Bool) (w : World) (hr0_3 : Kd.C (Kd.int .i64) w A0_3 l0_3.length l0_3) (hc0_3 : l0_3.length ≤ c0_3) (h : gantryref7_entry.f k a0_0 a0_1 a0_2 l0_3 a1 a2 = some r) :
  Calls Try.prog 123 #[.agg #[.int .i64 a0_0, .int .i64 a0_1, .int .i64 a0_2, .slice A0_3 l0_3.length c0_3], .int .i64 a1, .int .i64 a2] w fun e w' => e = .returned (.bool r) ∧ Below w.heap.size w w' := by
 have hu124 := Try.underlying124
 have HR0_3 := Aside0.mk hr0_3
 have HC0_3 := Aside0.mk hc0_3
 clear hr0_3 hc0_3
 have HB := Aside0.mk (Below.refl w.heap.size w)
 have H : (if a0_1 ≥ 0 then (gantryref7_entry.j0 k a1 (decide (a0_1 < a2)) a0_0 a0_1 a0_2 l0_3) else (gantryref7_entry.j0 k a1 false a0_0 a0_1 a0_2 l0_3)) = some r := h
 clear h
 have HC4 := Aside0.mk H
 clear H
 go_enter Try.func123, Try.ntmps123
 go_upto_region 1 with (first | ((with_reducible refine gate_dst (N := 3) rfl ?_); (try (refine gate_guard (by rfl) ?_; dsimp only)); refine box_event ?hg (N := 3) ?hd (cs := #[.int .i64 a0_0, .int .i64 a0_1, .int .i64 a0_2, .slice A0_3 l0_3.length c0_3]) (t := 124) ?hr ?_; (case hd => rfl); (case hg => rfl); (case hr => first | (go_simp; done) | (go_simp; rfl)); intro gb222 hg w5 hbox hb; have n0_ := Aside0.mk (below_step (by repeat (first | (with_reducible first | exact HB.out | apply below_alloc | apply pw_below_drewN | apply below_drew1) | exact HB.out)) hb); have n1_ := Aside0.mk (hbox); have n2_ := Aside0.mk ((by rw [hg]; exact (below_size (by repeat (first | (with_reducible first | exact HB.out | apply below_alloc | apply pw_below_drewN | apply below_drew1) | exact HB.out))) : w.heap.size ≤ gb222)); have n3_ := Aside0.mk ((by rw [hg]; exact (below_size (by repeat (first | (with_reducible first | exact HB.out | apply below_alloc | apply pw_below_drewN | apply below_drew1) | exact HB.out))) : w.heap.size ≤ gb222)); clear HB; have HB := n0_; have BK222 := n1_; have GW222 := n2_; have GE222 := n3_; clear n0_ n1_ n2_ n3_; clear hb hbox hg))
 (try simp only [Act.put, List.setIfInBounds_toArray, List.set_cons_zero, List.set_cons_succ])
 go_cut [7] (fun v7 wc => ∃ (kq : Nat) (x7_3 : Bool), v7 = .bool x7_3 ∧ Aside0 (gantryref7_entry.j0 kq a1 x7_3 a0_0 a0_1 a0_2 l0_3 = some r) ∧ Aside0 (kq ≤ k) ∧ Aside0 (wc.heap[gb222]? = some (.cells #[.int .i64 a0_0, .int .i64 a0_1, .int .i64 a0_2, (.slice A0_3 l0_3.length c0_3)] 124 (0, 0))) ∧ Aside0 (Below w.heap.size w wc))
 case first =>
  have H := HC4.out
  clear HC4
  by_cases c6 : a0_1 ≥ 0
  ·rw [if_pos c6] at H
   have c6b0 : decide (0 ≤ a0_1) = true := decide_eq_true c6
   clear c6
   (first | rw [c6b0] | (simp only [i64_w, i32_w]; rw [c6b0]) | skip)
   have H' := Aside0.mk H
   clear H
   have hcz7_0 : w5.cell? ⟨gb222, 0, none⟩ = some (.int .i64 a0_0) := (blk_cell BK222.out 0).trans rfl
   have hcz7_1 : w5.cell? ⟨gb222, 1, none⟩ = some (.int .i64 a0_1) := (blk_cell BK222.out 1).trans rfl
   have hcz7_2 : w5.cell? ⟨gb222, 2, none⟩ = some (.int .i64 a0_2) := (blk_cell BK222.out 2).trans rfl
   have hcz7_3 : w5.cell? ⟨gb222, 3, none⟩ = some (.slice A0_3 l0_3.length c0_3) := (blk_cell BK222.out 3).trans rfl
   have hfz7_0 := blk_frozen BK222.out 0
   have hfz7_1 := blk_frozen BK222.out 1
   have hfz7_2 := blk_frozen BK222.out 2
   have hfz7_3 := blk_frozen BK222.out 3
   go_wp2
   go_meet
   case rel => exact ⟨_, (decide (a0_1 < a2)), (by first | rfl | (simp; done) | (simp [*]; done)), H', ⟨by first | omega | exact Nat.le_refl _⟩, ⟨by (with_reducible repeat (first | refine blk_drewN ?_ _ | refine blk_drew ?_ | refine blk_alloc ?_ _)); exact BK222.out⟩, ⟨by repeat (first | (with_reducible first | exact HB.out | apply below_alloc | apply pw_below_drewN | apply below_drew1 | refine below_set ?_ GE222.out) | exact HB.out)⟩⟩
  ·rw [if_neg c6] at H
   have c6b0 : decide (0 ≤ a0_1) = false := decide_eq_false c6
   clear c6
   (first | rw [c6b0] | (simp only [i64_w, i32_w]; rw [c6b0]) | skip)
   have H' := Aside0.mk H
   clear H
   have hcz8_0 : w5.cell? ⟨gb222, 0, none⟩ = some (.int .i64 a0_0) := (blk_cell BK222.out 0).trans rfl
   have hcz8_1 : w5.cell? ⟨gb222, 1, none⟩ = some (.int .i64 a0_1) := (blk_cell BK222.out 1).trans rfl
   have hcz8_2 : w5.cell? ⟨gb222, 2, none⟩ = some (.int .i64 a0_2) := (blk_cell BK222.out 2).trans rfl
   have hcz8_3 : w5.cell? ⟨gb222, 3, none⟩ = some (.slice A0_3 l0_3.length c0_3) := (blk_cell BK222.out 3).trans rfl
   have hfz8_0 := blk_frozen BK222.out 0
   have hfz8_1 := blk_frozen BK222.out 1
   have hfz8_2 := blk_frozen BK222.out 2
   have hfz8_3 := blk_frozen BK222.out 3
   go_wp2
   go_meet
   case rel => exact ⟨_, (false), (by first | rfl | (simp; done) | (simp [*]; done)), H', ⟨by first | omega | exact Nat.le_refl _⟩, ⟨by (with_reducible repeat (first | refine blk_drewN ?_ _ | refine blk_drew ?_ | refine blk_alloc ?_ _)); exact BK222.out⟩, ⟨by repeat (first | (with_reducible first | exact HB.out | apply below_alloc | apply pw_below_drewN | apply below_drew1 | refine below_set ?_ GE222.out) | exact HB.out)⟩⟩
 case rest =>
  clear HC4
  try clear c1
  try clear p2
  try clear c6
  try clear c6b0
  try clear hcz7_0
  try clear hcz7_1
  try clear hcz7_2
  try clear hcz7_3
  try clear hcz8_0
  try clear hcz8_1
  try clear hcz8_2
  try clear hcz8_3
  try clear hfz7_0
  try clear hfz7_1
  try clear hfz7_2
  try clear hfz7_3
  try clear hfz8_0
  try clear hfz8_1
  try clear hfz8_2
  try clear hfz8_3
  obtain ⟨kq, x7_3, rfl, HA, HJ3, BK222, HB⟩ := hcut
  cases kq with
  | zero => exact absurd HA.out (by simp [gantryref7_entry.j0])
  | succ kj3 =>
   have H := HA.out
   clear HA
   simp only [gantryref7_entry.j0] at H
   have HC9 := Aside0.mk H
   clear H
   have hcz10_0 : wc.cell? ⟨gb222, 0, none⟩ = some (.int .i64 a0_0) := (blk_cell BK222.out 0).trans rfl
   have hcz10_1 : wc.cell? ⟨gb222, 1, none⟩ = some (.int .i64 a0_1) := (blk_cell BK222.out 1).trans rfl
   have hcz10_2 : wc.cell? ⟨gb222, 2, none⟩ = some (.int .i64 a0_2) := (blk_cell BK222.out 2).trans rfl
   have hcz10_3 : wc.cell? ⟨gb222, 3, none⟩ = some (.slice A0_3 l0_3.length c0_3) := (blk_cell BK222.out 3).trans rfl
   have hfz10_0 := blk_frozen BK222.out 0
   have hfz10_1 := blk_frozen BK222.out 1
   have hfz10_2 := blk_frozen BK222.out 2
   have hfz10_3 := blk_frozen BK222.out 3
   go_upto_if 19 with (fail)
   go_cut [19] (fun v19 wc => ∃ (kq : Nat) (x19_8 : Bool), v19 = .bool x19_8 ∧ Aside0 (gantryref7_entry.j1 kq a1 x7_3 a0_0 x19_8 a0_0 a0_1 a0_2 l0_3 = some r) ∧ Aside0 (kq ≤ kj3) ∧ Aside0 (wc.heap[gb222]? = some (.cells #[.int .i64 a0_0, .int .i64 a0_1, .int .i64 a0_2, (.slice A0_3 l0_3.length c0_3)] 124 (0, 0))) ∧ Aside0 (Below w.heap.size w wc))
   case first =>
    have H := HC9.out
    clear HC9
    by_cases c11 : a0_0 = 11
    ·rw [if_pos c11] at H
     have c11b0 : (a0_0 == 11) = true := beq_iff_eq.mpr c11
     have c11b1 : (a0_0 != 11) = false := bne_eq_false_iff_eq.mpr c11
     clear c11
     (first | rw [c11b0] | (simp only [i64_w, i32_w]; rw [c11b0]) | skip)
     have H' := Aside0.mk H
     clear H
     go_wp2
     go_meet
     case rel => exact ⟨_, ((a0_0 == 11)), (by first | rfl | (simp; done) | (simp [*]; done)), H', ⟨by have := HJ3.out; first | omega | exact Nat.le_refl _⟩, ⟨by (with_reducible repeat (first | refine blk_drewN ?_ _ | refine blk_drew ?_ | refine blk_alloc ?_ _)); exact BK222.out⟩, ⟨by repeat (first | (with_reducible first | exact HB.out | apply below_alloc | apply pw_below_drewN | apply below_drew1 | refine below_set ?_ GE222.out) | exact HB.out)⟩⟩
    ·rw [if_neg c11] at H
     have c11b0 : (a0_0 == 11) = false := beq_eq_false_iff_ne.mpr c11
     have c11b1 : (a0_0 != 11) = true := bne_iff_ne.mpr c11
     (first | rw [c11b0] | (simp only [i64_w, i32_w]; rw [c11b0]) | skip)
     have H' := Aside0.mk H
     clear H
     go_wp2
     go_meet
     case rel => exact ⟨_, ((a0_0 == 14)), (by first | rfl | (simp; done) | (simp [*]; done)), H', ⟨by have := HJ3.out; first | omega | exact Nat.le_refl _⟩, ⟨by (with_reducible repeat (first | refine blk_drewN ?_ _ | refine blk_drew ?_ | refine blk_alloc ?_ _)); exact BK222.out⟩, ⟨by repeat (first | (with_reducible first | exact HB.out | apply below_alloc | apply pw_below_drewN | apply below_drew1 | refine below_set ?_ GE222.out) | exact HB.out)⟩⟩
   case rest =>
    clear HC9
    try clear c1
    try clear p2
    try clear c6
    try clear c6b0
    try clear c11
    try clear c11b0
    try clear c11b1
    try clear hcz10_0
    try clear hcz10_1
    try clear hcz10_2
    try clear hcz10_3
    try clear hcz7_0
    try clear hcz7_1
    try clear hcz7_2
    try clear hcz7_3
    try clear hcz8_0
    try clear hcz8_1
    try clear hcz8_2
    try clear hcz8_3
    try clear hfz10_0
    try clear hfz10_1
    try clear hfz10_2
    try clear hfz10_3
    try clear hfz7_0
    try clear hfz7_1
    try clear hfz7_2
    try clear hfz7_3
    try clear hfz8_0
    try clear hfz8_1
    try clear hfz8_2
    try clear hfz8_3
    try clear p2
    obtain ⟨kq, x19_8, rfl, HA, HJ8, BK222, HB⟩ := hcut
    cases kq with
    | zero => exact absurd HA.out (by simp [gantryref7_entry.j1])
    | succ kj8 =>
     have H := HA.out
     clear HA
     simp only [gantryref7_entry.j1] at H
     by_cases c12 : x19_8 = true
     ·subst c12
      have H1 : (if x7_3 = true then (if a0_2 = 0 then (some ((l0_3.length : Int) == 0)) else (some false)) else (some false)) = some r := by rw [if_pos rfl] at H; exact H
      clear H
      have H := H1
      clear H1
      by_cases c13 : x7_3 = true
      ·subst c13
       have H1 : (if a0_2 = 0 then (some ((l0_3.length : Int) == 0)) else (some false)) = some r := by rw [if_pos rfl] at H; exact H
       clear H
       have H := H1
       clear H1
       by_cases c14 : a0_2 = 0
       ·rw [if_pos c14] at H
        have c14b0 : (a0_2 == 0) = true := beq_iff_eq.mpr c14
        have c14b1 : (a0_2 != 0) = false := bne_eq_false_iff_eq.mpr c14
        clear c14
        obtain rfl := Option.some.inj H
        have hcz15_0 : wc.cell? ⟨gb222, 0, none⟩ = some (.int .i64 a0_0) := (blk_cell BK222.out 0).trans rfl
        have hcz15_1 : wc.cell? ⟨gb222, 1, none⟩ = some (.int .i64 a0_1) := (blk_cell BK222.out 1).trans rfl
        have hcz15_2 : wc.cell? ⟨gb222, 2, none⟩ = some (.int .i64 a0_2) := (blk_cell BK222.out 2).trans rfl
        have hcz15_3 : wc.cell? ⟨gb222, 3, none⟩ = some (.slice A0_3 l0_3.length c0_3) := (blk_cell BK222.out 3).trans rfl
        have hfz15_0 := blk_frozen BK222.out 0
        have hfz15_1 := blk_frozen BK222.out 1
        have hfz15_2 := blk_frozen BK222.out 2
        have hfz15_3 := blk_frozen BK222.out 3
        go_wp2
        go_ret
        exact ⟨by first | rfl | (simp [errW_none, errW_some] <;> rfl) | (simp [*, errW_none, errW_some] <;> rfl), by repeat (first | (with_reducible first | exact HB.out | apply below_alloc | apply pw_below_drewN | apply below_drew1 | refine below_set ?_ GE222.out) | exact HB.out)⟩
       ·rw [if_neg c14] at H
        have c14b0 : (a0_2 == 0) = false := beq_eq_false_iff_ne.mpr c14
        have c14b1 : (a0_2 != 0) = true := bne_iff_ne.mpr c14
        obtain rfl := Option.some.inj H
        have hcz16_0 : wc.cell? ⟨gb222, 0, none⟩ = some (.int .i64 a0_0) := (blk_cell BK222.out 0).trans rfl
        have hcz16_1 : wc.cell? ⟨gb222, 1, none⟩ = some (.int .i64 a0_1) := (blk_cell BK222.out 1).trans rfl
        have hcz16_2 : wc.cell? ⟨gb222, 2, none⟩ = some (.int .i64 a0_2) := (blk_cell BK222.out 2).trans rfl
        have hcz16_3 : wc.cell? ⟨gb222, 3, none⟩ = some (.slice A0_3 l0_3.length c0_3) := (blk_cell BK222.out 3).trans rfl
        have hfz16_0 := blk_frozen BK222.out 0
        have hfz16_1 := blk_frozen BK222.out 1
        have hfz16_2 := blk_frozen BK222.out 2
        have hfz16_3 := blk_frozen BK222.out 3
        go_wp2
        go_ret
        exact ⟨by first | rfl | (simp [errW_none, errW_some] <;> rfl) | (simp [*, errW_none, errW_some] <;> rfl), by repeat (first | (with_reducible first | exact HB.out | apply below_alloc | apply pw_below_drewN | apply below_drew1 | refine below_set ?_ GE222.out) | exact HB.out)⟩
      ·replace c13 := Bool.eq_false_iff.mpr c13
       subst c13
       have H1 : (some false) = some r := by rw [if_neg (show ¬ (false = true) by decide)] at H; exact H
       clear H
       have H := H1
       clear H1
       obtain rfl := Option.some.inj H
       go_wp2
       go_ret
       exact ⟨by first | rfl | (simp [errW_none, errW_some] <;> rfl) | (simp [*, errW_none, errW_some] <;> rfl), by repeat (first | (with_reducible first | exact HB.out | apply below_alloc | apply pw_below_drewN | apply below_drew1 | refine below_set ?_ GE222.out) | exact HB.out)⟩
     ·replace c12 := Bool.eq_false_iff.mpr c12
      subst c12
      have H1 : (if a0_0 = 12 then (if a0_1 ≥ 0 then (if a0_1 < a1 then (if a0_2 ≥ 0 then (if a0_2 ≤ 65536 then (some ((l0_3.length : Int) == 0)) else (some false)) else (some false)) else (some false)) else (some false)) else (if a0_0 = 13 then (if a0_1 = 0 then (if a0_2 = 0 then (if (l0_3.length : Int) ≤ 16 then ((gantryref7_ahead.f kj8 l0_3 a1).bind fun t223 => (some t223)) else (some false)) else (some false)) else (some false)) else (if a0_0 = 15 then (if a0_1 = 0 then (if a0_2 = 0 then (some ((l0_3.length : Int) == 0)) else (some false)) else (some false)) else ((gantryref7_Scalar.f a0_0).bind fun t224 => (if t224 = true then (if a0_1 = 0 then (if a0_2 = 0 then (some ((l0_3.length : Int) == 0)) else (some false)) else (some false)) else (some false)))))) = some r := by rw [if_neg (show ¬ (false = true) by decide)] at H; exact H
      clear H
      have H := H1
      clear H1
      by_cases c17 : a0_0 = 12
      ·rw [if_pos c17] at H
       have c17b0 : (a0_0 == 12) = true := beq_iff_eq.mpr c17
       have c17b1 : (a0_0 != 12) = false := bne_eq_false_iff_eq.mpr c17
       clear c17
       by_cases c18 : a0_1 ≥ 0
       ·rw [if_pos c18] at H
        have c18b0 : decide (0 ≤ a0_1) = true := decide_eq_true c18
        clear c18
        by_cases c19 : a0_1 < a1
        ·rw [if_pos c19] at H
         have c19b0 : decide (a0_1 < a1) = true := decide_eq_true c19
         clear c19
         by_cases c20 : a0_2 ≥ 0
         ·rw [if_pos c20] at H
          have c20b0 : decide (0 ≤ a0_2) = true := decide_eq_true c20
          clear c20
          by_cases c21 : a0_2 ≤ 65536
          ·rw [if_pos c21] at H
           have c21b0 : decide (a0_2 ≤ 65536) = true := decide_eq_true c21
           clear c21
           obtain rfl := Option.some.inj H
           have hcz22_0 : wc.cell? ⟨gb222, 0, none⟩ = some (.int .i64 a0_0) := (blk_cell BK222.out 0).trans rfl
           have hcz22_1 : wc.cell? ⟨gb222, 1, none⟩ = some (.int .i64 a0_1) := (blk_cell BK222.out 1).trans rfl
           have hcz22_2 : wc.cell? ⟨gb222, 2, none⟩ = some (.int .i64 a0_2) := (blk_cell BK222.out 2).trans rfl
           have hcz22_3 : wc.cell? ⟨gb222, 3, none⟩ = some (.slice A0_3 l0_3.length c0_3) := (blk_cell BK222.out 3).trans rfl
           have hfz22_0 := blk_frozen BK222.out 0
           have hfz22_1 := blk_frozen BK222.out 1
           have hfz22_2 := blk_frozen BK222.out 2
           have hfz22_3 := blk_frozen BK222.out 3
           go_wp2
           go_ret
           exact ⟨by first | rfl | (simp [errW_none, errW_some] <;> rfl) | (simp [*, errW_none, errW_some] <;> rfl), by repeat (first | (with_reducible first | exact HB.out | apply below_alloc | apply pw_below_drewN | apply below_drew1 | refine below_set ?_ GE222.out) | exact HB.out)⟩
          ·rw [if_neg c21] at H
           have c21b0 : decide (a0_2 ≤ 65536) = false := decide_eq_false c21
           clear c21
           obtain rfl := Option.some.inj H
           have hcz23_0 : wc.cell? ⟨gb222, 0, none⟩ = some (.int .i64 a0_0) := (blk_cell BK222.out 0).trans rfl
           have hcz23_1 : wc.cell? ⟨gb222, 1, none⟩ = some (.int .i64 a0_1) := (blk_cell BK222.out 1).trans rfl
           have hcz23_2 : wc.cell? ⟨gb222, 2, none⟩ = some (.int .i64 a0_2) := (blk_cell BK222.out 2).trans rfl
           have hcz23_3 : wc.cell? ⟨gb222, 3, none⟩ = some (.slice A0_3 l0_3.length c0_3) := (blk_cell BK222.out 3).trans rfl
           have hfz23_0 := blk_frozen BK222.out 0
           have hfz23_1 := blk_frozen BK222.out 1
           have hfz23_2 := blk_frozen BK222.out 2
           have hfz23_3 := blk_frozen BK222.out 3
           go_wp2
           go_ret
           exact ⟨by first | rfl | (simp [errW_none, errW_some] <;> rfl) | (simp [*, errW_none, errW_some] <;> rfl), by repeat (first | (with_reducible first | exact HB.out | apply below_alloc | apply pw_below_drewN | apply below_drew1 | refine below_set ?_ GE222.out) | exact HB.out)⟩
         ·rw [if_neg c20] at H
          have c20b0 : decide (0 ≤ a0_2) = false := decide_eq_false c20
          clear c20
          obtain rfl := Option.some.inj H
          have hcz24_0 : wc.cell? ⟨gb222, 0, none⟩ = some (.int .i64 a0_0) := (blk_cell BK222.out 0).trans rfl
          have hcz24_1 : wc.cell? ⟨gb222, 1, none⟩ = some (.int .i64 a0_1) := (blk_cell BK222.out 1).trans rfl
          have hcz24_2 : wc.cell? ⟨gb222, 2, none⟩ = some (.int .i64 a0_2) := (blk_cell BK222.out 2).trans rfl
          have hcz24_3 : wc.cell? ⟨gb222, 3, none⟩ = some (.slice A0_3 l0_3.length c0_3) := (blk_cell BK222.out 3).trans rfl
          have hfz24_0 := blk_frozen BK222.out 0
          have hfz24_1 := blk_frozen BK222.out 1
          have hfz24_2 := blk_frozen BK222.out 2
          have hfz24_3 := blk_frozen BK222.out 3
          go_wp2
          go_ret
          exact ⟨by first | rfl | (simp [errW_none, errW_some] <;> rfl) | (simp [*, errW_none, errW_some] <;> rfl), by repeat (first | (with_reducible first | exact HB.out | apply below_alloc | apply pw_below_drewN | apply below_drew1 | refine below_set ?_ GE222.out) | exact HB.out)⟩
        ·rw [if_neg c19] at H
         have c19b0 : decide (a0_1 < a1) = false := decide_eq_false c19
         clear c19
         obtain rfl := Option.some.inj H
         have hcz25_0 : wc.cell? ⟨gb222, 0, none⟩ = some (.int .i64 a0_0) := (blk_cell BK222.out 0).trans rfl
         have hcz25_1 : wc.cell? ⟨gb222, 1, none⟩ = some (.int .i64 a0_1) := (blk_cell BK222.out 1).trans rfl
         have hcz25_2 : wc.cell? ⟨gb222, 2, none⟩ = some (.int .i64 a0_2) := (blk_cell BK222.out 2).trans rfl
         have hcz25_3 : wc.cell? ⟨gb222, 3, none⟩ = some (.slice A0_3 l0_3.length c0_3) := (blk_cell BK222.out 3).trans rfl
         have hfz25_0 := blk_frozen BK222.out 0
         have hfz25_1 := blk_frozen BK222.out 1
         have hfz25_2 := blk_frozen BK222.out 2
         have hfz25_3 := blk_frozen BK222.out 3
         go_wp2
         go_ret
         exact ⟨by first | rfl | (simp [errW_none, errW_some] <;> rfl) | (simp [*, errW_none, errW_some] <;> rfl), by repeat (first | (with_reducible first | exact HB.out | apply below_alloc | apply pw_below_drewN | apply below_drew1 | refine below_set ?_ GE222.out) | exact HB.out)⟩
       ·rw [if_neg c18] at H
        have c18b0 : decide (0 ≤ a0_1) = false := decide_eq_false c18
        clear c18
        obtain rfl := Option.some.inj H
        have hcz26_0 : wc.cell? ⟨gb222, 0, none⟩ = some (.int .i64 a0_0) := (blk_cell BK222.out 0).trans rfl
        have hcz26_1 : wc.cell? ⟨gb222, 1, none⟩ = some (.int .i64 a0_1) := (blk_cell BK222.out 1).trans rfl
        have hcz26_2 : wc.cell? ⟨gb222, 2, none⟩ = some (.int .i64 a0_2) := (blk_cell BK222.out 2).trans rfl
        have hcz26_3 : wc.cell? ⟨gb222, 3, none⟩ = some (.slice A0_3 l0_3.length c0_3) := (blk_cell BK222.out 3).trans rfl
        have hfz26_0 := blk_frozen BK222.out 0
        have hfz26_1 := blk_frozen BK222.out 1
        have hfz26_2 := blk_frozen BK222.out 2
        have hfz26_3 := blk_frozen BK222.out 3
        go_wp2
        go_ret
        exact ⟨by first | rfl | (simp [errW_none, errW_some] <;> rfl) | (simp [*, errW_none, errW_some] <;> rfl), by repeat (first | (with_reducible first | exact HB.out | apply below_alloc | apply pw_below_drewN | apply below_drew1 | refine below_set ?_ GE222.out) | exact HB.out)⟩
      ·rw [if_neg c17] at H
       have c17b0 : (a0_0 == 12) = false := beq_eq_false_iff_ne.mpr c17
       have c17b1 : (a0_0 != 12) = true := bne_iff_ne.mpr c17
       by_cases c27 : a0_0 = 13
       ·rw [if_pos c27] at H
        have c27b0 : (a0_0 == 13) = true := beq_iff_eq.mpr c27
        have c27b1 : (a0_0 != 13) = false := bne_eq_false_iff_eq.mpr c27
        clear c27
        by_cases c28 : a0_1 = 0
        ·rw [if_pos c28] at H
         have c28b0 : (a0_1 == 0) = true := beq_iff_eq.mpr c28
         have c28b1 : (a0_1 != 0) = false := bne_eq_false_iff_eq.mpr c28
         clear c28
         by_cases c29 : a0_2 = 0
         ·rw [if_pos c29] at H
          have c29b0 : (a0_2 == 0) = true := beq_iff_eq.mpr c29
          have c29b1 : (a0_2 != 0) = false := bne_eq_false_iff_eq.mpr c29
          clear c29
          by_cases c30 : (l0_3.length : Int) ≤ 16
          ·rw [if_pos c30] at H
           have c30b0 : decide ((l0_3.length : Int) ≤ 16) = true := decide_eq_true c30
           have c30b1 : decide (l0_3.length ≤ 16) = true := decide_eq_true (by omega)
           clear c30
           replace H := Option.bind_eq_some_iff.mp H
           obtain ⟨t223, A310, H⟩ := H
           replace H : (some t223) = some r := H
           have A31 := Aside0.mk A310
           clear A310
           obtain rfl := Option.some.inj H
           have hcz32_0 : wc.cell? ⟨gb222, 0, none⟩ = some (.int .i64 a0_0) := (blk_cell BK222.out 0).trans rfl
           have hcz32_1 : wc.cell? ⟨gb222, 1, none⟩ = some (.int .i64 a0_1) := (blk_cell BK222.out 1).trans rfl
           have hcz32_2 : wc.cell? ⟨gb222, 2, none⟩ = some (.int .i64 a0_2) := (blk_cell BK222.out 2).trans rfl
           have hcz32_3 : wc.cell? ⟨gb222, 3, none⟩ = some (.slice A0_3 l0_3.length c0_3) := (blk_cell BK222.out 3).trans rfl
           have hfz32_0 := blk_frozen BK222.out 0
           have hfz32_1 := blk_frozen BK222.out 1
           have hfz32_2 := blk_frozen BK222.out 2
           have hfz32_3 := blk_frozen BK222.out 3
           go_wp2_with (first | (go_at_call 153; (with_reducible refine (gantryref7_ahead.calls kj8 _ _ l0_3 a1 t223 _ ?side1 ?side2 A31.out).mono ?_); (case side1 => repeat (first | exact (Kd.C_below HR0_3.out HB.out) | (with_reducible refine Kd.C_alloc ?_ _) | (with_reducible refine Kd.C_drewN ?_ _) | (with_reducible refine Kd.C_drew ?_))); (case side2 => exact HC0_3.out); rintro e w' ⟨rfl, ⟨nd, rfl⟩⟩))
           go_ret
           exact ⟨by first | rfl | (simp [errW_none, errW_some] <;> rfl) | (simp [*, errW_none, errW_some] <;> rfl), by repeat (first | (with_reducible first | exact HB.out | apply below_alloc | apply pw_below_drewN | apply below_drew1 | refine below_set ?_ GE222.out) | exact HB.out)⟩
          ·rw [if_neg c30] at H
           have c30b0 : decide ((l0_3.length : Int) ≤ 16) = false := decide_eq_false c30
           have c30b1 : decide (l0_3.length ≤ 16) = false := decide_eq_false (by omega)
           clear c30
           obtain rfl := Option.some.inj H
           have hcz33_0 : wc.cell? ⟨gb222, 0, none⟩ = some (.int .i64 a0_0) := (blk_cell BK222.out 0).trans rfl
           have hcz33_1 : wc.cell? ⟨gb222, 1, none⟩ = some (.int .i64 a0_1) := (blk_cell BK222.out 1).trans rfl
           have hcz33_2 : wc.cell? ⟨gb222, 2, none⟩ = some (.int .i64 a0_2) := (blk_cell BK222.out 2).trans rfl
           have hcz33_3 : wc.cell? ⟨gb222, 3, none⟩ = some (.slice A0_3 l0_3.length c0_3) := (blk_cell BK222.out 3).trans rfl
           have hfz33_0 := blk_frozen BK222.out 0
           have hfz33_1 := blk_frozen BK222.out 1
           have hfz33_2 := blk_frozen BK222.out 2
           have hfz33_3 := blk_frozen BK222.out 3
           go_wp2
           go_ret
           exact ⟨by first | rfl | (simp [errW_none, errW_some] <;> rfl) | (simp [*, errW_none, errW_some] <;> rfl), by repeat (first | (with_reducible first | exact HB.out | apply below_alloc | apply pw_below_drewN | apply below_drew1 | refine below_set ?_ GE222.out) | exact HB.out)⟩
         ·rw [if_neg c29] at H
          have c29b0 : (a0_2 == 0) = false := beq_eq_false_iff_ne.mpr c29
          have c29b1 : (a0_2 != 0) = true := bne_iff_ne.mpr c29
          obtain rfl := Option.some.inj H
          have hcz34_0 : wc.cell? ⟨gb222, 0, none⟩ = some (.int .i64 a0_0) := (blk_cell BK222.out 0).trans rfl
          have hcz34_1 : wc.cell? ⟨gb222, 1, none⟩ = some (.int .i64 a0_1) := (blk_cell BK222.out 1).trans rfl
          have hcz34_2 : wc.cell? ⟨gb222, 2, none⟩ = some (.int .i64 a0_2) := (blk_cell BK222.out 2).trans rfl
          have hcz34_3 : wc.cell? ⟨gb222, 3, none⟩ = some (.slice A0_3 l0_3.length c0_3) := (blk_cell BK222.out 3).trans rfl
          have hfz34_0 := blk_frozen BK222.out 0
          have hfz34_1 := blk_frozen BK222.out 1
          have hfz34_2 := blk_frozen BK222.out 2
          have hfz34_3 := blk_frozen BK222.out 3
          go_wp2
          go_ret
          exact ⟨by first | rfl | (simp [errW_none, errW_some] <;> rfl) | (simp [*, errW_none, errW_some] <;> rfl), by repeat (first | (with_reducible first | exact HB.out | apply below_alloc | apply pw_below_drewN | apply below_drew1 | refine below_set ?_ GE222.out) | exact HB.out)⟩
        ·rw [if_neg c28] at H
         have c28b0 : (a0_1 == 0) = false := beq_eq_false_iff_ne.mpr c28
         have c28b1 : (a0_1 != 0) = true := bne_iff_ne.mpr c28
         obtain rfl := Option.some.inj H
         have hcz35_0 : wc.cell? ⟨gb222, 0, none⟩ = some (.int .i64 a0_0) := (blk_cell BK222.out 0).trans rfl
         have hcz35_1 : wc.cell? ⟨gb222, 1, none⟩ = some (.int .i64 a0_1) := (blk_cell BK222.out 1).trans rfl
         have hcz35_2 : wc.cell? ⟨gb222, 2, none⟩ = some (.int .i64 a0_2) := (blk_cell BK222.out 2).trans rfl
         have hcz35_3 : wc.cell? ⟨gb222, 3, none⟩ = some (.slice A0_3 l0_3.length c0_3) := (blk_cell BK222.out 3).trans rfl
         have hfz35_0 := blk_frozen BK222.out 0
         have hfz35_1 := blk_frozen BK222.out 1
         have hfz35_2 := blk_frozen BK222.out 2
         have hfz35_3 := blk_frozen BK222.out 3
         go_wp2
         go_ret
         exact ⟨by first | rfl | (simp [errW_none, errW_some] <;> rfl) | (simp [*, errW_none, errW_some] <;> rfl), by repeat (first | (with_reducible first | exact HB.out | apply below_alloc | apply pw_below_drewN | apply below_drew1 | refine below_set ?_ GE222.out) | exact HB.out)⟩
       ·rw [if_neg c27] at H
        have c27b0 : (a0_0 == 13) = false := beq_eq_false_iff_ne.mpr c27
        have c27b1 : (a0_0 != 13) = true := bne_iff_ne.mpr c27
        by_cases c36 : a0_0 = 15
        ·rw [if_pos c36] at H
         have c36b0 : (a0_0 == 15) = true := beq_iff_eq.mpr c36
         have c36b1 : (a0_0 != 15) = false := bne_eq_false_iff_eq.mpr c36
         clear c36
         by_cases c37 : a0_1 = 0
         ·rw [if_pos c37] at H
          have c37b0 : (a0_1 == 0) = true := beq_iff_eq.mpr c37
          have c37b1 : (a0_1 != 0) = false := bne_eq_false_iff_eq.mpr c37
          clear c37
          by_cases c38 : a0_2 = 0
          ·rw [if_pos c38] at H
           have c38b0 : (a0_2 == 0) = true := beq_iff_eq.mpr c38
           have c38b1 : (a0_2 != 0) = false := bne_eq_false_iff_eq.mpr c38
           clear c38
           obtain rfl := Option.some.inj H
           have hcz39_0 : wc.cell? ⟨gb222, 0, none⟩ = some (.int .i64 a0_0) := (blk_cell BK222.out 0).trans rfl
           have hcz39_1 : wc.cell? ⟨gb222, 1, none⟩ = some (.int .i64 a0_1) := (blk_cell BK222.out 1).trans rfl
           have hcz39_2 : wc.cell? ⟨gb222, 2, none⟩ = some (.int .i64 a0_2) := (blk_cell BK222.out 2).trans rfl
           have hcz39_3 : wc.cell? ⟨gb222, 3, none⟩ = some (.slice A0_3 l0_3.length c0_3) := (blk_cell BK222.out 3).trans rfl
           have hfz39_0 := blk_frozen BK222.out 0
           have hfz39_1 := blk_frozen BK222.out 1
           have hfz39_2 := blk_frozen BK222.out 2
           have hfz39_3 := blk_frozen BK222.out 3
           go_wp2
           go_ret
           exact ⟨by first | rfl | (simp [errW_none, errW_some] <;> rfl) | (simp [*, errW_none, errW_some] <;> rfl), by repeat (first | (with_reducible first | exact HB.out | apply below_alloc | apply pw_below_drewN | apply below_drew1 | refine below_set ?_ GE222.out) | exact HB.out)⟩
          ·rw [if_neg c38] at H
           have c38b0 : (a0_2 == 0) = false := beq_eq_false_iff_ne.mpr c38
           have c38b1 : (a0_2 != 0) = true := bne_iff_ne.mpr c38
           obtain rfl := Option.some.inj H
           have hcz40_0 : wc.cell? ⟨gb222, 0, none⟩ = some (.int .i64 a0_0) := (blk_cell BK222.out 0).trans rfl
           have hcz40_1 : wc.cell? ⟨gb222, 1, none⟩ = some (.int .i64 a0_1) := (blk_cell BK222.out 1).trans rfl
           have hcz40_2 : wc.cell? ⟨gb222, 2, none⟩ = some (.int .i64 a0_2) := (blk_cell BK222.out 2).trans rfl
           have hcz40_3 : wc.cell? ⟨gb222, 3, none⟩ = some (.slice A0_3 l0_3.length c0_3) := (blk_cell BK222.out 3).trans rfl
           have hfz40_0 := blk_frozen BK222.out 0
           have hfz40_1 := blk_frozen BK222.out 1
           have hfz40_2 := blk_frozen BK222.out 2
           have hfz40_3 := blk_frozen BK222.out 3
           go_wp2
           go_ret
           exact ⟨by first | rfl | (simp [errW_none, errW_some] <;> rfl) | (simp [*, errW_none, errW_some] <;> rfl), by repeat (first | (with_reducible first | exact HB.out | apply below_alloc | apply pw_below_drewN | apply below_drew1 | refine below_set ?_ GE222.out) | exact HB.out)⟩
         ·rw [if_neg c37] at H
          have c37b0 : (a0_1 == 0) = false := beq_eq_false_iff_ne.mpr c37
          have c37b1 : (a0_1 != 0) = true := bne_iff_ne.mpr c37
          obtain rfl := Option.some.inj H
          have hcz41_0 : wc.cell? ⟨gb222, 0, none⟩ = some (.int .i64 a0_0) := (blk_cell BK222.out 0).trans rfl
          have hcz41_1 : wc.cell? ⟨gb222, 1, none⟩ = some (.int .i64 a0_1) := (blk_cell BK222.out 1).trans rfl
          have hcz41_2 : wc.cell? ⟨gb222, 2, none⟩ = some (.int .i64 a0_2) := (blk_cell BK222.out 2).trans rfl
          have hcz41_3 : wc.cell? ⟨gb222, 3, none⟩ = some (.slice A0_3 l0_3.length c0_3) := (blk_cell BK222.out 3).trans rfl
          have hfz41_0 := blk_frozen BK222.out 0
          have hfz41_1 := blk_frozen BK222.out 1
          have hfz41_2 := blk_frozen BK222.out 2
          have hfz41_3 := blk_frozen BK222.out 3
          go_wp2
          go_ret
          exact ⟨by first | rfl | (simp [errW_none, errW_some] <;> rfl) | (simp [*, errW_none, errW_some] <;> rfl), by repeat (first | (with_reducible first | exact HB.out | apply below_alloc | apply pw_below_drewN | apply below_drew1 | refine below_set ?_ GE222.out) | exact HB.out)⟩
        ·rw [if_neg c36] at H
         have c36b0 : (a0_0 == 15) = false := beq_eq_false_iff_ne.mpr c36
         have c36b1 : (a0_0 != 15) = true := bne_iff_ne.mpr c36
         replace H := Option.bind_eq_some_iff.mp H
         obtain ⟨t224, A420, H⟩ := H
         replace H : (if t224 = true then (if a0_1 = 0 then (if a0_2 = 0 then (some ((l0_3.length : Int) == 0)) else (some false)) else (some false)) else (some false)) = some r := H
         have A42 := Aside0.mk A420
         clear A420
         by_cases c43 : t224 = true
         ·subst c43
          have H1 : (if a0_1 = 0 then (if a0_2 = 0 then (some ((l0_3.length : Int) == 0)) else (some false)) else (some false)) = some r := by rw [if_pos rfl] at H; exact H
          clear H
          have H := H1
          clear H1
          by_cases c44 : a0_1 = 0
          ·rw [if_pos c44] at H
           have c44b0 : (a0_1 == 0) = true := beq_iff_eq.mpr c44
           have c44b1 : (a0_1 != 0) = false := bne_eq_false_iff_eq.mpr c44
           clear c44
           by_cases c45 : a0_2 = 0
           ·rw [if_pos c45] at H
            have c45b0 : (a0_2 == 0) = true := beq_iff_eq.mpr c45
            have c45b1 : (a0_2 != 0) = false := bne_eq_false_iff_eq.mpr c45
            clear c45
            obtain rfl := Option.some.inj H
            have hcz46_0 : wc.cell? ⟨gb222, 0, none⟩ = some (.int .i64 a0_0) := (blk_cell BK222.out 0).trans rfl
            have hcz46_1 : wc.cell? ⟨gb222, 1, none⟩ = some (.int .i64 a0_1) := (blk_cell BK222.out 1).trans rfl
            have hcz46_2 : wc.cell? ⟨gb222, 2, none⟩ = some (.int .i64 a0_2) := (blk_cell BK222.out 2).trans rfl
            have hcz46_3 : wc.cell? ⟨gb222, 3, none⟩ = some (.slice A0_3 l0_3.length c0_3) := (blk_cell BK222.out 3).trans rfl
            have hfz46_0 := blk_frozen BK222.out 0
            have hfz46_1 := blk_frozen BK222.out 1
            have hfz46_2 := blk_frozen BK222.out 2
            have hfz46_3 := blk_frozen BK222.out 3
            go_wp2_with (first | ((with_reducible refine gate_callee (f := 154) rfl ?_); refine goesL_ (some 101) rfl rfl Try.func154 (by kernel_rfl) rfl #[.int .i64 a0_0] rfl (by (try simp only [List.map_toArray, List.map_cons, List.map_nil]); first | done | rfl | (simp only [List.length_drop, List.length_take]; rfl)) ?_; (with_reducible refine (gantryref7_Scalar.calls a0_0 true _ A42.out).mono ?_); rintro e w' ⟨rfl, ⟨nd, rfl⟩⟩; refine ⟨_, rfl, ?_⟩))
            go_ret
            exact ⟨by first | rfl | (simp [errW_none, errW_some] <;> rfl) | (simp [*, errW_none, errW_some] <;> rfl), by repeat (first | (with_reducible first | exact HB.out | apply below_alloc | apply pw_below_drewN | apply below_drew1 | refine below_set ?_ GE222.out) | exact HB.out)⟩
           ·rw [if_neg c45] at H
            have c45b0 : (a0_2 == 0) = false := beq_eq_false_iff_ne.mpr c45
            have c45b1 : (a0_2 != 0) = true := bne_iff_ne.mpr c45
            obtain rfl := Option.some.inj H
            have hcz47_0 : wc.cell? ⟨gb222, 0, none⟩ = some (.int .i64 a0_0) := (blk_cell BK222.out 0).trans rfl
            have hcz47_1 : wc.cell? ⟨gb222, 1, none⟩ = some (.int .i64 a0_1) := (blk_cell BK222.out 1).trans rfl
            have hcz47_2 : wc.cell? ⟨gb222, 2, none⟩ = some (.int .i64 a0_2) := (blk_cell BK222.out 2).trans rfl
            have hcz47_3 : wc.cell? ⟨gb222, 3, none⟩ = some (.slice A0_3 l0_3.length c0_3) := (blk_cell BK222.out 3).trans rfl
            have hfz47_0 := blk_frozen BK222.out 0
            have hfz47_1 := blk_frozen BK222.out 1
            have hfz47_2 := blk_frozen BK222.out 2
            have hfz47_3 := blk_frozen BK222.out 3
            go_wp2_with (first | ((with_reducible refine gate_callee (f := 154) rfl ?_); refine goesL_ (some 101) rfl rfl Try.func154 (by kernel_rfl) rfl #[.int .i64 a0_0] rfl (by (try simp only [List.map_toArray, List.map_cons, List.map_nil]); first | done | rfl | (simp only [List.length_drop, List.length_take]; rfl)) ?_; (with_reducible refine (gantryref7_Scalar.calls a0_0 true _ A42.out).mono ?_); rintro e w' ⟨rfl, ⟨nd, rfl⟩⟩; refine ⟨_, rfl, ?_⟩))
            go_ret
            exact ⟨by first | rfl | (simp [errW_none, errW_some] <;> rfl) | (simp [*, errW_none, errW_some] <;> rfl), by repeat (first | (with_reducible first | exact HB.out | apply below_alloc | apply pw_below_drewN | apply below_drew1 | refine below_set ?_ GE222.out) | exact HB.out)⟩
          ·rw [if_neg c44] at H
           have c44b0 : (a0_1 == 0) = false := beq_eq_false_iff_ne.mpr c44
           have c44b1 : (a0_1 != 0) = true := bne_iff_ne.mpr c44
           obtain rfl := Option.some.inj H
           have hcz48_0 : wc.cell? ⟨gb222, 0, none⟩ = some (.int .i64 a0_0) := (blk_cell BK222.out 0).trans rfl
           have hcz48_1 : wc.cell? ⟨gb222, 1, none⟩ = some (.int .i64 a0_1) := (blk_cell BK222.out 1).trans rfl
           have hcz48_2 : wc.cell? ⟨gb222, 2, none⟩ = some (.int .i64 a0_2) := (blk_cell BK222.out 2).trans rfl
           have hcz48_3 : wc.cell? ⟨gb222, 3, none⟩ = some (.slice A0_3 l0_3.length c0_3) := (blk_cell BK222.out 3).trans rfl
           have hfz48_0 := blk_frozen BK222.out 0
           have hfz48_1 := blk_frozen BK222.out 1
           have hfz48_2 := blk_frozen BK222.out 2
           have hfz48_3 := blk_frozen BK222.out 3
           go_wp2_with (first | ((with_reducible refine gate_callee (f := 154) rfl ?_); refine goesL_ (some 101) rfl rfl Try.func154 (by kernel_rfl) rfl #[.int .i64 a0_0] rfl (by (try simp only [List.map_toArray, List.map_cons, List.map_nil]); first | done | rfl | (simp only [List.length_drop, List.length_take]; rfl)) ?_; (with_reducible refine (gantryref7_Scalar.calls a0_0 true _ A42.out).mono ?_); rintro e w' ⟨rfl, ⟨nd, rfl⟩⟩; refine ⟨_, rfl, ?_⟩))
           go_ret
           exact ⟨by first | rfl | (simp [errW_none, errW_some] <;> rfl) | (simp [*, errW_none, errW_some] <;> rfl), by repeat (first | (with_reducible first | exact HB.out | apply below_alloc | apply pw_below_drewN | apply below_drew1 | refine below_set ?_ GE222.out) | exact HB.out)⟩
         ·replace c43 := Bool.eq_false_iff.mpr c43
          subst c43
          have H1 : (some false) = some r := by rw [if_neg (show ¬ (false = true) by decide)] at H; exact H
          clear H
          have H := H1
          clear H1
          obtain rfl := Option.some.inj H
          have hcz49_0 : wc.cell? ⟨gb222, 0, none⟩ = some (.int .i64 a0_0) := (blk_cell BK222.out 0).trans rfl
          have hcz49_1 : wc.cell? ⟨gb222, 1, none⟩ = some (.int .i64 a0_1) := (blk_cell BK222.out 1).trans rfl
          have hcz49_2 : wc.cell? ⟨gb222, 2, none⟩ = some (.int .i64 a0_2) := (blk_cell BK222.out 2).trans rfl
          have hcz49_3 : wc.cell? ⟨gb222, 3, none⟩ = some (.slice A0_3 l0_3.length c0_3) := (blk_cell BK222.out 3).trans rfl
          have hfz49_0 := blk_frozen BK222.out 0
          have hfz49_1 := blk_frozen BK222.out 1
          have hfz49_2 := blk_frozen BK222.out 2
          have hfz49_3 := blk_frozen BK222.out 3
          go_wp2_with (first | ((with_reducible refine gate_callee (f := 154) rfl ?_); refine goesL_ (some 101) rfl rfl Try.func154 (by kernel_rfl) rfl #[.int .i64 a0_0] rfl (by (try simp only [List.map_toArray, List.map_cons, List.map_nil]); first | done | rfl | (simp only [List.length_drop, List.length_take]; rfl)) ?_; (with_reducible refine (gantryref7_Scalar.calls a0_0 false _ A42.out).mono ?_); rintro e w' ⟨rfl, ⟨nd, rfl⟩⟩; refine ⟨_, rfl, ?_⟩))
          go_ret
          exact ⟨by first | rfl | (simp [errW_none, errW_some] <;> rfl) | (simp [*, errW_none, errW_some] <;> rfl), by repeat (first | (with_reducible first | exact HB.out | apply below_alloc | apply pw_below_drewN | apply below_drew1 | refine below_set ?_ GE222.out) | exact HB.out)⟩

end Go.Proofs.Ytekoogedhmhpgaa.Q

