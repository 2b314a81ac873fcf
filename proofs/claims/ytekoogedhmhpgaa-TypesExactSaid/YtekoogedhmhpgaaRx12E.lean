-- PRINTED by print.py (a twelfth state) out of the translation. Not trusted: Lean checks it.
import Derived.Test.YtekoogedhmhpgaaQx0E
import Derived.Test.YtekoogedhmhpgaaQx10E
import Derived.Test.YtekoogedhmhpgaaQx5E
import Derived.Test.YtekoogedhmhpgaaQx6E
import Derived.Test.YtekoogedhmhpgaaQx8E
import Derived.Test.YtekoogedhmhpgaaRx10E
import Derived.Test.YtekoogedhmhpgaaQGivenE
import Derived.Test.YtekoogedhmhpgaaLotsWE
namespace Go.Proofs.Ytekoogedhmhpgaa.Q
open Go.RowKit Go.Proofs.YtekoogedhmhpgaaW.PrintWords Go.Proofs.YtekoogedhmhpgaaW.PrintLast Go.Proofs.YtekoogedhmhpgaaW.PrintMore
attribute [local go_sem] max2_int min2_int max_two min_two max_three min_three max_four min_four   -- for this text's walks alone
set_option linter.unusedVariables false
set_option linter.unusedSimpArgs false

mutual
def gantrylaw7_TypesExact.l0 : Nat → List (S57) → Int → Option (Bool)
 | 0, _, _ => none
 | k + 1, x0, x3 => if x3 < (x0.length : Int) then (gantrylaw7_TypesExact.j1 k x0 x3 (decide (x3 < 10))) else (gantrylaw7_TypesExact.j1 k x0 x3 false)
def gantrylaw7_TypesExact.j1 : Nat → List (S57) → Int → Bool → Option (Bool)
 | 0, _, _, _ => none
 | k + 1, x0, x3, x16 => if x16 = true then (if 0 ≤ x3 then (if x3 < (x0.length : Int) then ((gantrylaw7_Heavy.f k ((rd_T57 x0 x3).f0)).bind fun t366 => (if t366 = true then (some true) else ((gantryref0_CopyTypes.f k ((rd_T57 x0 x3).f0)).bind fun t368 => ((gantryref7_Check.f k t368).bind fun t371 => ((types_Check.f t368).bind fun t372 => ((gantrylaw7_num.f t372).bind fun t373 => (if t373 = t371 then (gantrylaw7_TypesExact.l1 k x0 x3 t368 t371 0) else (some false)))))))) else (none)) else (none)) else ((gantrylaw7_wakes.f).bind fun t364 => (some t364))
def gantrylaw7_TypesExact.l1 : Nat → List (S57) → Int → List (S124) → Int → Int → Option (Bool)
 | 0, _, _, _, _, _ => none
 | k + 1, x0, x3, x4, x5, x6 => if 0 ≤ x3 then (if x3 < (x0.length : Int) then (if x6 < (((rd_T57 x0 x3).f1).length : Int) then (gantrylaw7_TypesExact.j3 k x0 x3 x4 x5 x6 (decide (x6 < 20))) else (gantrylaw7_TypesExact.j3 k x0 x3 x4 x5 x6 false)) else (none)) else (none)
def gantrylaw7_TypesExact.j3 : Nat → List (S57) → Int → List (S124) → Int → Int → Bool → Option (Bool)
 | 0, _, _, _, _, _, _ => none
 | k + 1, x0, x3, x4, x5, x6, x49 => if x49 = true then (if 0 ≤ x3 then (if x3 < (x0.length : Int) then (if 0 ≤ x6 then (if x6 < (((rd_T57 x0 x3).f1).length : Int) then ((gantrylaw7_sizes.f k x4 (rd ((rd_T57 x0 x3).f1) x6) x5).bind fun t377 => (if t377 = true then (gantrylaw7_TypesExact.l2 k x0 x3 x4 x5 x6 0) else (some false))) else (none)) else (none)) else (none)) else (none)) else (gantrylaw7_TypesExact.l3 k x0 x3 x4 x5 0)
def gantrylaw7_TypesExact.l2 : Nat → List (S57) → Int → List (S124) → Int → Int → Int → Option (Bool)
 | 0, _, _, _, _, _, _ => none
 | k + 1, x0, x3, x4, x5, x6, x7 => if 0 ≤ x3 then (if x3 < (x0.length : Int) then (if x7 < (((rd_T57 x0 x3).f2).length : Int) then (gantrylaw7_TypesExact.j5 k x0 x3 x4 x5 x6 x7 (decide (x7 < 6))) else (gantrylaw7_TypesExact.j5 k x0 x3 x4 x5 x6 x7 false)) else (none)) else (none)
def gantrylaw7_TypesExact.j5 : Nat → List (S57) → Int → List (S124) → Int → Int → Int → Bool → Option (Bool)
 | 0, _, _, _, _, _, _, _ => none
 | k + 1, x0, x3, x4, x5, x6, x7, x75 => if x75 = true then (if 0 ≤ x3 then (if x3 < (x0.length : Int) then (if 0 ≤ x6 then (if x6 < (((rd_T57 x0 x3).f1).length : Int) then (if 0 ≤ x7 then (if x7 < (((rd_T57 x0 x3).f2).length : Int) then ((gantrylaw7_offset.f k x4 (rd ((rd_T57 x0 x3).f1) x6) (rd ((rd_T57 x0 x3).f2) x7) x5).bind fun t383 => (if t383 = true then (gantrylaw7_TypesExact.l2 k x0 x3 x4 x5 x6 (wrap64 (x7 + 1))) else (some false))) else (none)) else (none)) else (none)) else (none)) else (none)) else (none)) else (gantrylaw7_TypesExact.l1 k x0 x3 x4 x5 (wrap64 (x6 + 1)))
def gantrylaw7_TypesExact.l3 : Nat → List (S57) → Int → List (S124) → Int → Int → Option (Bool)
 | 0, _, _, _, _, _ => none
 | k + 1, x0, x3, x4, x5, x8 => if x8 < (x4.length : Int) then (gantrylaw7_TypesExact.j7 k x0 x3 x4 x5 x8 (decide (x8 < 64))) else (gantrylaw7_TypesExact.j7 k x0 x3 x4 x5 x8 false)
def gantrylaw7_TypesExact.j7 : Nat → List (S57) → Int → List (S124) → Int → Int → Bool → Option (Bool)
 | 0, _, _, _, _, _, _ => none
 | k + 1, x0, x3, x4, x5, x8, x105 => if x105 = true then ((gantrylaw7_sizes.f k x4 x8 x5).bind fun t384 => (if t384 = true then (gantrylaw7_TypesExact.l3 k x0 x3 x4 x5 (wrap64 (x8 + 1))) else (some false))) else (if 0 ≤ x3 then (if x3 < (x0.length : Int) then ((gantryref0_EqTypes.f k x4 ((rd_T57 x0 x3).f0)).bind fun t386 => (if t386 = true then (gantrylaw7_TypesExact.l0 k x0 (wrap64 (x3 + 1))) else (some false))) else (none)) else (none))
end
def gantrylaw7_TypesExact.f (k : Nat) (l0 : List (S57)) : Option (Bool) := gantrylaw7_TypesExact.l0 k l0 0
def gantrylaw7_TypesExact.T18 : Bool × List (List Nat × List Nat) := (true, [([], []), ([], []), ([], []), ([1, 2], [1, 2]), ([3], [3]), ([4], [4]), ([], []), ([5, 6], [5, 6]), ([7], [7]), ([], []), ([], []), ([9, 10], [9, 10]), ([11], [11]), ([12], [12]), ([], []), ([13, 14], [13, 14]), ([15], [15]), ([], []), ([0, 8, 16, 17], [0, 8, 16, 17]), ([18], [18])])
def gantrylaw7_TypesExact.B18 : List Nat := [0, 0, 0, 6, 14, 30, 0, 126, 254, 0, 0, 1536, 3584, 7680, 0, 32256, 65024, 0, 262143, 524287]
theorem gantrylaw7_TypesExact.tab18 : rtab .any (opsOf Try.f6 18) = gantrylaw7_TypesExact.T18 := by kernel_rfl
theorem gantrylaw7_TypesExact.bits18 : waitsOk gantrylaw7_TypesExact.T18.2 gantrylaw7_TypesExact.B18 = true := by kernel_rfl
set_option maxHeartbeats 8000000 in
set_option maxRecDepth 100000 in
theorem gantrylaw7_TypesExact.calls (k : Nat) (A0 : Option Addr) (c0 : Nat) (l0 : List (S57)) (r : Bool) (w : World) (hr0 : Kd.C k57 w A0 l0.length l0) (hc0 : l0.length ≤ c0) (h : gantrylaw7_TypesExact.f k l0 = some r) :
  Calls Try.prog 6 #[.slice A0 l0.length c0] w fun e w' => e = .returned (.bool r) ∧ Below w.heap.size w w' := by
 have HR0 := Aside0.mk hr0
 have HC0 := Aside0.mk hc0
 clear hr0 hc0
 have HB := Aside0.mk (Below.refl w.heap.size w)
 have H : (gantrylaw7_TypesExact.l0 k l0 0) = some r := h
 clear h
 have H' := Aside0.mk H
 clear H
 go_enter Try.func6, Try.ntmps6
 go_wp2
 go_loopg [3] k (fun kq v3 w' => ∃ (x3_1 : Int), v3 = .int .i64 x3_1 ∧ Aside0 (gantrylaw7_TypesExact.l0 kq l0 x3_1 = some r) ∧ Aside0 (kq ≤ k) ∧ Aside0 (Below w.heap.size w w'))
 case atStart => exact ⟨(0), (by first | rfl | (simp; done) | (simp [*]; done)), H', ⟨Nat.le_refl _⟩, ⟨by repeat (first | (with_reducible first | exact HB.out | apply below_alloc | apply pw_below_drewN | apply below_drew1) | exact HB.out)⟩⟩
 case round =>
  clear H'
  obtain ⟨x3_1, rfl, HA, HK1, HB⟩ := hrel
  cases gk with
  | zero => exact absurd HA.out (by simp [gantrylaw7_TypesExact.l0])
  | succ k1 =>
   have H := HA.out
   clear HA
   simp only [gantrylaw7_TypesExact.l0] at H
   have HC2 := Aside0.mk H
   clear H
   go_upto_region 2 with (fail)
   go_cut [16] (fun v16 wc => ∃ (kq : Nat) (x16_1 : Bool), v16 = .bool x16_1 ∧ Aside0 (gantrylaw7_TypesExact.j1 kq l0 x3_1 x16_1 = some r) ∧ Aside0 (kq ≤ k1) ∧ Aside0 (Below w.heap.size w wc))
   case first =>
    have H := HC2.out
    clear HC2
    by_cases c3 : x3_1 < (l0.length : Int)
    ·rw [if_pos c3] at H
     have c3b0 : decide (x3_1 < (l0.length : Int)) = true := decide_eq_true c3
     clear c3
     (first | rw [c3b0] | (simp only [i64_w, i32_w]; rw [c3b0]) | skip)
     have H' := Aside0.mk H
     clear H
     go_wp2
     go_meet
     case rel => exact ⟨_, (decide (x3_1 < 10)), (by first | rfl | (simp; done) | (simp [*]; done)), H', ⟨by have := HK1.out; first | omega | exact Nat.le_refl _⟩, ⟨by repeat (first | (with_reducible first | exact HB.out | apply below_alloc | apply pw_below_drewN | apply below_drew1) | exact HB.out)⟩⟩
    ·rw [if_neg c3] at H
     have c3b0 : decide (x3_1 < (l0.length : Int)) = false := decide_eq_false c3
     clear c3
     (first | rw [c3b0] | (simp only [i64_w, i32_w]; rw [c3b0]) | skip)
     have H' := Aside0.mk H
     clear H
     go_wp2
     go_meet
     case rel => exact ⟨_, (false), (by first | rfl | (simp; done) | (simp [*]; done)), H', ⟨by have := HK1.out; first | omega | exact Nat.le_refl _⟩, ⟨by repeat (first | (with_reducible first | exact HB.out | apply below_alloc | apply pw_below_drewN | apply below_drew1) | exact HB.out)⟩⟩
   case rest =>
    clear HC2
    try clear p2
    try clear c3
    try clear c3b0
    obtain ⟨kq, x16_1, rfl, HA, HJ1, HB⟩ := hcut
    cases kq with
    | zero => exact absurd HA.out (by simp [gantrylaw7_TypesExact.j1])
    | succ kj1 =>
     have H := HA.out
     clear HA
     simp only [gantrylaw7_TypesExact.j1] at H
     by_cases c4 : x16_1 = true
     ·subst c4
      have H1 : (if 0 ≤ x3_1 then (if x3_1 < (l0.length : Int) then ((gantrylaw7_Heavy.f kj1 ((rd_T57 l0 x3_1).f0)).bind fun t366 => (if t366 = true then (some true) else ((gantryref0_CopyTypes.f kj1 ((rd_T57 l0 x3_1).f0)).bind fun t368 => ((gantryref7_Check.f kj1 t368).bind fun t371 => ((types_Check.f t368).bind fun t372 => ((gantrylaw7_num.f t372).bind fun t373 => (if t373 = t371 then (gantrylaw7_TypesExact.l1 kj1 l0 x3_1 t368 t371 0) else (some false)))))))) else (none)) else (none)) = some r := by rw [if_pos rfl] at H; exact H
      clear H
      have H := H1
      clear H1
      by_cases c5 : 0 ≤ x3_1
      ·rw [if_pos c5] at H
       have c5b0 : decide (0 ≤ x3_1) = true := decide_eq_true c5
       clear c5
       by_cases c6 : x3_1 < (l0.length : Int)
       ·rw [if_pos c6] at H
        have c6b0 : decide (x3_1 < (l0.length : Int)) = true := decide_eq_true c6
        clear c6
        replace H := Option.bind_eq_some_iff.mp H
        obtain ⟨t366, A70, H⟩ := H
        replace H : (if t366 = true then (some true) else ((gantryref0_CopyTypes.f kj1 ((rd_T57 l0 x3_1).f0)).bind fun t368 => ((gantryref7_Check.f kj1 t368).bind fun t371 => ((types_Check.f t368).bind fun t372 => ((gantrylaw7_num.f t372).bind fun t373 => (if t373 = t371 then (gantrylaw7_TypesExact.l1 kj1 l0 x3_1 t368 t371 0) else (some false))))))) = some r := H
        have A7 := Aside0.mk A70
        clear A70
        by_cases c8 : t366 = true
        ·subst c8
         have H1 : (some true) = some r := by rw [if_pos rfl] at H; exact H
         clear H
         have H := H1
         clear H1
         obtain rfl := Option.some.inj H
         have p365 : 0 ≤ (x3_1 : Int) := of_decide_eq_true (by first | (with_reducible assumption) | assumption)
         have q365 : x3_1 < (l0.length : Int) := of_decide_eq_true (by first | (with_reducible assumption) | assumption)
         obtain ⟨ad365, A365_0, c365_0, A365_1, c365_1, A365_2, c365_2, e365, hx365_0, hx365_1, hx365_2, hl365_0, hi365_0, hl365_1, hi365_1, hl365_2, hi365_2⟩ := at_T57 HR0.out x3_1 p365 q365
         cases e365
         replace hx365_0 := (HB.out.cell (World.block_lt_of_cell? w _ hx365_0)).trans hx365_0
         replace hx365_1 := (HB.out.cell (World.block_lt_of_cell? w _ hx365_1)).trans hx365_1
         replace hx365_2 := (HB.out.cell (World.block_lt_of_cell? w _ hx365_2)).trans hx365_2
         have HR365_0 := Aside0.mk hi365_0
         have HC365_0 := Aside0.mk hl365_0
         clear hi365_0 hl365_0
         have HR365_1 := Aside0.mk hi365_1
         have HC365_1 := Aside0.mk hl365_1
         clear hi365_1 hl365_1
         have HR365_2 := Aside0.mk hi365_2
         have HC365_2 := Aside0.mk hl365_2
         clear hi365_2 hl365_2
         replace p365 := eq_true p365
         replace q365 := eq_true q365
         go_wp2_with (first | ((with_reducible refine gate_callee (f := 24) rfl ?_); refine goesL_ (some 24) rfl rfl Try.func24 (by kernel_rfl) rfl #[.slice A365_0 ((rd_T57 l0 x3_1).f0).length c365_0] rfl (by (try simp only [List.map_toArray, List.map_cons, List.map_nil]); first | done | rfl | (simp only [List.length_drop, List.length_take]; rfl)) ?_; (with_reducible refine (gantrylaw7_Heavy.calls kj1 _ _ ((rd_T57 l0 x3_1).f0) true _ ?side1 ?side2 A7.out).mono ?_); (case side1 => repeat (first | exact (Kd.C_below HR365_0.out HB.out) | (with_reducible refine Kd.C_alloc ?_ _) | (with_reducible refine Kd.C_drewN ?_ _) | (with_reducible refine Kd.C_drew ?_))); (case side2 => exact HC365_0.out); rintro e w' ⟨rfl, ⟨nd, rfl⟩⟩; refine ⟨_, rfl, ?_⟩))
         go_ret
         exact ⟨by first | rfl | (simp [errW_none, errW_some] <;> rfl) | (simp [*, errW_none, errW_some] <;> rfl), by repeat (first | (with_reducible first | exact HB.out | apply below_alloc | apply pw_below_drewN | apply below_drew1) | exact HB.out)⟩
        ·replace c8 := Bool.eq_false_iff.mpr c8
         subst c8
         have H1 : ((gantryref0_CopyTypes.f kj1 ((rd_T57 l0 x3_1).f0)).bind fun t368 => ((gantryref7_Check.f kj1 t368).bind fun t371 => ((types_Check.f t368).bind fun t372 => ((gantrylaw7_num.f t372).bind fun t373 => (if t373 = t371 then (gantrylaw7_TypesExact.l1 kj1 l0 x3_1 t368 t371 0) else (some false)))))) = some r := by rw [if_neg (show ¬ (false = true) by decide)] at H; exact H
         clear H
         have H := H1
         clear H1
         replace H := Option.bind_eq_some_iff.mp H
         obtain ⟨t368, A90, H⟩ := H
         replace H : ((gantryref7_Check.f kj1 t368).bind fun t371 => ((types_Check.f t368).bind fun t372 => ((gantrylaw7_num.f t372).bind fun t373 => (if t373 = t371 then (gantrylaw7_TypesExact.l1 kj1 l0 x3_1 t368 t371 0) else (some false))))) = some r := H
         have A9 := Aside0.mk A90
         clear A90
         replace H := Option.bind_eq_some_iff.mp H
         obtain ⟨t371, A100, H⟩ := H
         replace H : ((types_Check.f t368).bind fun t372 => ((gantrylaw7_num.f t372).bind fun t373 => (if t373 = t371 then (gantrylaw7_TypesExact.l1 kj1 l0 x3_1 t368 t371 0) else (some false)))) = some r := H
         have A10 := Aside0.mk A100
         clear A100
         replace H := Option.bind_eq_some_iff.mp H
         obtain ⟨t372, A110, H⟩ := H
         replace H : ((gantrylaw7_num.f t372).bind fun t373 => (if t373 = t371 then (gantrylaw7_TypesExact.l1 kj1 l0 x3_1 t368 t371 0) else (some false))) = some r := H
         have A11 := Aside0.mk A110
         clear A110
         replace H := Option.bind_eq_some_iff.mp H
         obtain ⟨t373, A120, H⟩ := H
         replace H : (if t373 = t371 then (gantrylaw7_TypesExact.l1 kj1 l0 x3_1 t368 t371 0) else (some false)) = some r := H
         have A12 := Aside0.mk A120
         clear A120
         by_cases c13 : t373 = t371
         ·rw [if_pos c13] at H
          have c13b0 : (t373 == t371) = true := beq_iff_eq.mpr c13
          have c13b1 : (t373 != t371) = false := bne_eq_false_iff_eq.mpr c13
          clear c13
          have H' := Aside0.mk H
          clear H
          have p365 : 0 ≤ (x3_1 : Int) := of_decide_eq_true (by first | (with_reducible assumption) | assumption)
          have q365 : x3_1 < (l0.length : Int) := of_decide_eq_true (by first | (with_reducible assumption) | assumption)
          obtain ⟨ad365, A365_0, c365_0, A365_1, c365_1, A365_2, c365_2, e365, hx365_0, hx365_1, hx365_2, hl365_0, hi365_0, hl365_1, hi365_1, hl365_2, hi365_2⟩ := at_T57 HR0.out x3_1 p365 q365
          cases e365
          replace hx365_0 := (HB.out.cell (World.block_lt_of_cell? w _ hx365_0)).trans hx365_0
          replace hx365_1 := (HB.out.cell (World.block_lt_of_cell? w _ hx365_1)).trans hx365_1
          replace hx365_2 := (HB.out.cell (World.block_lt_of_cell? w _ hx365_2)).trans hx365_2
          have HR365_0 := Aside0.mk hi365_0
          have HC365_0 := Aside0.mk hl365_0
          clear hi365_0 hl365_0
          have HR365_1 := Aside0.mk hi365_1
          have HC365_1 := Aside0.mk hl365_1
          clear hi365_1 hl365_1
          have HR365_2 := Aside0.mk hi365_2
          have HC365_2 := Aside0.mk hl365_2
          clear hi365_2 hl365_2
          replace p365 := eq_true p365
          replace q365 := eq_true q365
          go_wp2_with (first | ((with_reducible refine gate_callee (f := 24) rfl ?_); refine goesL_ (some 24) rfl rfl Try.func24 (by kernel_rfl) rfl #[.slice A365_0 ((rd_T57 l0 x3_1).f0).length c365_0] rfl (by (try simp only [List.map_toArray, List.map_cons, List.map_nil]); first | done | rfl | (simp only [List.length_drop, List.length_take]; rfl)) ?_; (with_reducible refine (gantrylaw7_Heavy.calls kj1 _ _ ((rd_T57 l0 x3_1).f0) false _ ?side1 ?side2 A7.out).mono ?_); (case side1 => repeat (first | exact (Kd.C_below HR365_0.out HB.out) | (with_reducible refine Kd.C_alloc ?_ _) | (with_reducible refine Kd.C_drewN ?_ _) | (with_reducible refine Kd.C_drew ?_))); (case side2 => exact HC365_0.out); rintro e w' ⟨rfl, ⟨nd, rfl⟩⟩; refine ⟨_, rfl, ?_⟩; have p367 : 0 ≤ (x3_1 : Int) := of_decide_eq_true (by first | (with_reducible assumption) | assumption); have q367 : x3_1 < (l0.length : Int) := of_decide_eq_true (by first | (with_reducible assumption) | assumption); obtain ⟨ad367, A367_0, c367_0, A367_1, c367_1, A367_2, c367_2, e367, hx367_0, hx367_1, hx367_2, hl367_0, hi367_0, hl367_1, hi367_1, hl367_2, hi367_2⟩ := at_T57 HR0.out x3_1 p367 q367; obtain rfl : ad365 = ad367 := (by injection e367); replace hx367_0 := (HB.out.cell (World.block_lt_of_cell? w _ hx367_0)).trans hx367_0; replace hx367_1 := (HB.out.cell (World.block_lt_of_cell? w _ hx367_1)).trans hx367_1; replace hx367_2 := (HB.out.cell (World.block_lt_of_cell? w _ hx367_2)).trans hx367_2; have HR367_0 := Aside0.mk hi367_0; have HC367_0 := Aside0.mk hl367_0; clear hi367_0 hl367_0; have HR367_1 := Aside0.mk hi367_1; have HC367_1 := Aside0.mk hl367_1; clear hi367_1 hl367_1; have HR367_2 := Aside0.mk hi367_2; have HC367_2 := Aside0.mk hl367_2; clear hi367_2 hl367_2; replace p367 := eq_true p367; replace q367 := eq_true q367; have ea_ := Option.some.inj (hx365_0.symm.trans hx367_0); injection ea_ with ea_ en_ ec_; subst ea_; subst ec_; clear en_; have ea_ := Option.some.inj (hx365_1.symm.trans hx367_1); injection ea_ with ea_ en_ ec_; subst ea_; subst ec_; clear en_; have ea_ := Option.some.inj (hx365_2.symm.trans hx367_2); injection ea_ with ea_ en_ ec_; subst ea_; subst ec_; clear en_) | ((with_reducible refine gate_callee (f := 27) rfl ?_); refine goesL_ (some 30) rfl rfl Try.func27 (by kernel_rfl) rfl #[.slice A365_0 ((rd_T57 l0 x3_1).f0).length c365_0] rfl (by (try simp only [List.map_toArray, List.map_cons, List.map_nil]); first | done | rfl | (simp only [List.length_drop, List.length_take]; rfl)) ?_; (with_reducible refine (gantryref0_CopyTypes.calls kj1 _ _ ((rd_T57 l0 x3_1).f0) t368 _ ?side1 ?side2 A9.out).mono ?_); (case side1 => repeat (first | exact (Kd.C_below HR367_0.out (by repeat (first | (with_reducible first | exact HB.out | apply below_alloc | apply pw_below_drewN | apply below_drew1) | exact HB.out))) | (with_reducible refine Kd.C_alloc ?_ _) | (with_reducible refine Kd.C_drewN ?_ _) | (with_reducible refine Kd.C_drew ?_))); (case side2 => exact HC367_0.out); rintro e w14 ⟨v369, rfl, ho0, hb⟩; refine ⟨_, rfl, ?_⟩; have n0_ := Aside0.mk (Kd.S_lower ho0 (below_size (by repeat (first | (with_reducible first | exact HB.out | apply below_alloc | apply pw_below_drewN | apply below_drew1) | exact HB.out)))); have n1_ := Aside0.mk (below_step (by repeat (first | (with_reducible first | exact HB.out | apply below_alloc | apply pw_below_drewN | apply below_drew1) | exact HB.out)) hb); clear HB; have HO370 := n0_; have HB := n1_; clear n0_ n1_; (try clear hb); (try clear hb2); (try clear hk); (try clear hi); (try clear ho0); obtain ⟨Ao15, co15, eo15⟩ := Kd.S_slice HO370.out; subst eo15) | ((with_reducible refine gate_callee (f := 33) rfl ?_); refine goesL_ (some 32) rfl rfl Try.func33 (by kernel_rfl) rfl #[.slice Ao15 t368.length co15] rfl (by (try simp only [List.map_toArray, List.map_cons, List.map_nil]); first | done | rfl | (simp only [List.length_drop, List.length_take]; rfl)) ?_; (with_reducible refine (gantryref7_Check.calls kj1 _ _ t368 t371 _ ?side1 ?side2 A10.out).mono ?_); (case side1 => repeat (first | exact (Kd.S_reads' HO370.out).2.2 | (with_reducible refine Kd.C_alloc ?_ _) | (with_reducible refine Kd.C_drewN ?_ _) | (with_reducible refine Kd.C_drew ?_))); (case side2 => exact (Kd.S_reads' HO370.out).2.1); rintro e w16 ⟨rfl, hb⟩; refine ⟨_, rfl, ?_⟩; have n0_ := Aside0.mk (Kd.S_below (by (with_reducible repeat (first | apply Kd.S_alloc | apply Kd.S_drewN | apply Kd.S_drew)); exact HO370.out) hb); have n1_ := Aside0.mk (below_step (by repeat (first | (with_reducible first | exact HB.out | apply below_alloc | apply pw_below_drewN | apply below_drew1) | exact HB.out)) hb); clear HO370; clear HB; have HO370 := n0_; have HB := n1_; clear n0_ n1_; (try clear hb); (try clear hb2); (try clear hk); (try clear hi)) | ((with_reducible refine gate_callee (f := 26) rfl ?_); refine goesL_ (some 34) rfl rfl Try.func26 (by kernel_rfl) rfl #[.slice Ao15 t368.length co15] rfl (by (try simp only [List.map_toArray, List.map_cons, List.map_nil]); first | done | rfl | (simp only [List.length_drop, List.length_take]; rfl)) ?_; (with_reducible refine (types_Check.calls _ _ t368 t372 _ ?side1 ?side2 A11.out).mono ?_); (case side1 => repeat (first | exact (Kd.S_reads' HO370.out).2.2 | (with_reducible refine Kd.C_alloc ?_ _) | (with_reducible refine Kd.C_drewN ?_ _) | (with_reducible refine Kd.C_drew ?_))); (case side2 => exact (Kd.S_reads' HO370.out).2.1); rintro e w17 ⟨rfl, hb⟩; refine ⟨_, rfl, ?_⟩; have n0_ := Aside0.mk (Kd.S_below (by (with_reducible repeat (first | apply Kd.S_alloc | apply Kd.S_drewN | apply Kd.S_drew)); exact HO370.out) hb); have n1_ := Aside0.mk (below_step (by repeat (first | (with_reducible first | exact HB.out | apply below_alloc | apply pw_below_drewN | apply below_drew1) | exact HB.out)) hb); clear HO370; clear HB; have HO370 := n0_; have HB := n1_; clear n0_ n1_; (try clear hb); (try clear hb2); (try clear hk); (try clear hi)) | ((with_reducible refine gate_callee (f := 25) rfl ?_); refine goesL_ (some 35) rfl rfl Try.func25 (by kernel_rfl) rfl #[.int .i64 t372] rfl (by (try simp only [List.map_toArray, List.map_cons, List.map_nil]); first | done | rfl | (simp only [List.length_drop, List.length_take]; rfl)) ?_; (with_reducible refine (gantrylaw7_num.calls t372 t373 _ A12.out).mono ?_); rintro e w' ⟨rfl, ⟨nd, rfl⟩⟩; refine ⟨_, rfl, ?_⟩))
          go_loopg [6] kj1 (fun kq v6 w' => ∃ (x6_3 : Int), v6 = .int .i64 x6_3 ∧ Aside0 (gantrylaw7_TypesExact.l1 kq l0 x3_1 t368 t371 x6_3 = some r) ∧ Aside0 (kq ≤ kj1) ∧ Aside0 (Kd.S k124 124 w' w.heap.size (fun _ => True) (.slice Ao15 t368.length co15) t368) ∧ Aside0 (Below w.heap.size w w'))
          case atStart => exact ⟨(0), (by first | rfl | (simp; done) | (simp [*]; done)), H', ⟨Nat.le_refl _⟩, ⟨by (with_reducible repeat (first | apply Kd.S_alloc | apply Kd.S_drewN | apply Kd.S_drew)); exact HO370.out⟩, ⟨by repeat (first | (with_reducible first | exact HB.out | apply below_alloc | apply pw_below_drewN | apply below_drew1) | exact HB.out)⟩⟩
          case round =>
           clear H'
           try clear c1
           try clear c2
           try clear p2
           try clear c3
           try clear c3b0
           try clear p3
           try clear q3
           try clear hx3
           try clear c4
           try clear c5
           try clear c5b0
           try clear c6
           try clear c6b0
           try clear c8
           try clear c13
           try clear c13b0
           try clear c13b1
           try clear hx365_0
           try clear hx365_1
           try clear hx365_2
           try clear hx367_0
           try clear hx367_1
           try clear hx367_2
           try clear p2
           try clear p365
           try clear p367
           try clear q365
           try clear q367
           obtain ⟨x6_3, rfl, HA, HK3, HO_4, HB⟩ := hrel
           cases gk with
           | zero => exact absurd HA.out (by simp [gantrylaw7_TypesExact.l1])
           | succ k3 =>
            have H := HA.out
            clear HA
            simp only [gantrylaw7_TypesExact.l1] at H
            have HC18 := Aside0.mk H
            clear H
            go_upto_region 11 with (fail)
            go_cut [49] (fun v49 wc => ∃ (kq : Nat) (x49_17 : Bool), v49 = .bool x49_17 ∧ Aside0 (gantrylaw7_TypesExact.j3 kq l0 x3_1 t368 t371 x6_3 x49_17 = some r) ∧ Aside0 (kq ≤ k3) ∧ Aside0 (Kd.S k124 124 wc w.heap.size (fun _ => True) (.slice Ao15 t368.length co15) t368) ∧ Aside0 (Below w.heap.size w wc))
            case first =>
             have H := HC18.out
             clear HC18
             by_cases c19 : 0 ≤ x3_1
             ·rw [if_pos c19] at H
              have c19b0 : decide (0 ≤ x3_1) = true := decide_eq_true c19
              clear c19
              (first | rw [c19b0] | (simp only [i64_w, i32_w]; rw [c19b0]) | skip)
              by_cases c20 : x3_1 < (l0.length : Int)
              ·rw [if_pos c20] at H
               have c20b0 : decide (x3_1 < (l0.length : Int)) = true := decide_eq_true c20
               clear c20
               by_cases c21 : x6_3 < (((rd_T57 l0 x3_1).f1).length : Int)
               ·rw [if_pos c21] at H
                have c21b0 : decide (x6_3 < (((rd_T57 l0 x3_1).f1).length : Int)) = true := decide_eq_true c21
                clear c21
                have H' := Aside0.mk H
                clear H
                have p374 : 0 ≤ (x3_1 : Int) := of_decide_eq_true (by first | (with_reducible assumption) | assumption)
                have q374 : x3_1 < (l0.length : Int) := of_decide_eq_true (by first | (with_reducible assumption) | assumption)
                obtain ⟨ad374, A374_0, c374_0, A374_1, c374_1, A374_2, c374_2, e374, hx374_0, hx374_1, hx374_2, hl374_0, hi374_0, hl374_1, hi374_1, hl374_2, hi374_2⟩ := at_T57 HR0.out x3_1 p374 q374
                obtain rfl : ad365 = ad374 := (by injection e374)
                replace hx374_0 := (HB.out.cell (World.block_lt_of_cell? w _ hx374_0)).trans hx374_0
                replace hx374_1 := (HB.out.cell (World.block_lt_of_cell? w _ hx374_1)).trans hx374_1
                replace hx374_2 := (HB.out.cell (World.block_lt_of_cell? w _ hx374_2)).trans hx374_2
                have HR374_0 := Aside0.mk hi374_0
                have HC374_0 := Aside0.mk hl374_0
                clear hi374_0 hl374_0
                have HR374_1 := Aside0.mk hi374_1
                have HC374_1 := Aside0.mk hl374_1
                clear hi374_1 hl374_1
                have HR374_2 := Aside0.mk hi374_2
                have HC374_2 := Aside0.mk hl374_2
                clear hi374_2 hl374_2
                replace p374 := eq_true p374
                replace q374 := eq_true q374
                go_wp2
                go_meet
                case rel => exact ⟨_, (decide (x6_3 < 20)), (by first | rfl | (simp; done) | (simp [*]; done)), H', ⟨by have := HK1.out; have := HJ1.out; have := HK3.out; first | omega | exact Nat.le_refl _⟩, ⟨by (with_reducible repeat (first | apply Kd.S_alloc | apply Kd.S_drewN | apply Kd.S_drew)); exact HO_4.out⟩, ⟨by repeat (first | (with_reducible first | exact HB.out | apply below_alloc | apply pw_below_drewN | apply below_drew1) | exact HB.out)⟩⟩
               ·rw [if_neg c21] at H
                have c21b0 : decide (x6_3 < (((rd_T57 l0 x3_1).f1).length : Int)) = false := decide_eq_false c21
                clear c21
                have H' := Aside0.mk H
                clear H
                have p374 : 0 ≤ (x3_1 : Int) := of_decide_eq_true (by first | (with_reducible assumption) | assumption)
                have q374 : x3_1 < (l0.length : Int) := of_decide_eq_true (by first | (with_reducible assumption) | assumption)
                obtain ⟨ad374, A374_0, c374_0, A374_1, c374_1, A374_2, c374_2, e374, hx374_0, hx374_1, hx374_2, hl374_0, hi374_0, hl374_1, hi374_1, hl374_2, hi374_2⟩ := at_T57 HR0.out x3_1 p374 q374
                obtain rfl : ad365 = ad374 := (by injection e374)
                replace hx374_0 := (HB.out.cell (World.block_lt_of_cell? w _ hx374_0)).trans hx374_0
                replace hx374_1 := (HB.out.cell (World.block_lt_of_cell? w _ hx374_1)).trans hx374_1
                replace hx374_2 := (HB.out.cell (World.block_lt_of_cell? w _ hx374_2)).trans hx374_2
                have HR374_0 := Aside0.mk hi374_0
                have HC374_0 := Aside0.mk hl374_0
                clear hi374_0 hl374_0
                have HR374_1 := Aside0.mk hi374_1
                have HC374_1 := Aside0.mk hl374_1
                clear hi374_1 hl374_1
                have HR374_2 := Aside0.mk hi374_2
                have HC374_2 := Aside0.mk hl374_2
                clear hi374_2 hl374_2
                replace p374 := eq_true p374
                replace q374 := eq_true q374
                go_wp2
                go_meet
                case rel => exact ⟨_, (false), (by first | rfl | (simp; done) | (simp [*]; done)), H', ⟨by have := HK1.out; have := HJ1.out; have := HK3.out; first | omega | exact Nat.le_refl _⟩, ⟨by (with_reducible repeat (first | apply Kd.S_alloc | apply Kd.S_drewN | apply Kd.S_drew)); exact HO_4.out⟩, ⟨by repeat (first | (with_reducible first | exact HB.out | apply below_alloc | apply pw_below_drewN | apply below_drew1) | exact HB.out)⟩⟩
              ·rw [if_neg c20] at H
               exact absurd H (by simp)
             ·rw [if_neg c19] at H
              exact absurd H (by simp)
            case rest =>
             clear HC18
             try clear c1
             try clear c2
             try clear p2
             try clear c3
             try clear c3b0
             try clear p3
             try clear q3
             try clear hx3
             try clear c4
             try clear c5
             try clear c5b0
             try clear c6
             try clear c6b0
             try clear c8
             try clear c13
             try clear c13b0
             try clear c13b1
             try clear c19
             try clear c19b0
             try clear c20
             try clear c20b0
             try clear c21
             try clear c21b0
             try clear hx365_0
             try clear hx365_1
             try clear hx365_2
             try clear hx367_0
             try clear hx367_1
             try clear hx367_2
             try clear hx374_0
             try clear hx374_1
             try clear hx374_2
             try clear p2
             try clear p3
             try clear p365
             try clear p367
             try clear p374
             try clear q3
             try clear q365
             try clear q367
             try clear q374
             obtain ⟨kq, x49_17, rfl, HA, HJ17, HO_4, HB⟩ := hcut
             cases kq with
             | zero => exact absurd HA.out (by simp [gantrylaw7_TypesExact.j3])
             | succ kj17 =>
              have H := HA.out
              clear HA
              simp only [gantrylaw7_TypesExact.j3] at H
              by_cases c22 : x49_17 = true
              ·subst c22
               have H1 : (if 0 ≤ x3_1 then (if x3_1 < (l0.length : Int) then (if 0 ≤ x6_3 then (if x6_3 < (((rd_T57 l0 x3_1).f1).length : Int) then ((gantrylaw7_sizes.f kj17 t368 (rd ((rd_T57 l0 x3_1).f1) x6_3) t371).bind fun t377 => (if t377 = true then (gantrylaw7_TypesExact.l2 kj17 l0 x3_1 t368 t371 x6_3 0) else (some false))) else (none)) else (none)) else (none)) else (none)) = some r := by rw [if_pos rfl] at H; exact H
               clear H
               have H := H1
               clear H1
               by_cases c23 : 0 ≤ x3_1
               ·rw [if_pos c23] at H
                have c23b0 : decide (0 ≤ x3_1) = true := decide_eq_true c23
                clear c23
                by_cases c24 : x3_1 < (l0.length : Int)
                ·rw [if_pos c24] at H
                 have c24b0 : decide (x3_1 < (l0.length : Int)) = true := decide_eq_true c24
                 clear c24
                 by_cases c25 : 0 ≤ x6_3
                 ·rw [if_pos c25] at H
                  have c25b0 : decide (0 ≤ x6_3) = true := decide_eq_true c25
                  clear c25
                  by_cases c26 : x6_3 < (((rd_T57 l0 x3_1).f1).length : Int)
                  ·rw [if_pos c26] at H
                   have c26b0 : decide (x6_3 < (((rd_T57 l0 x3_1).f1).length : Int)) = true := decide_eq_true c26
                   clear c26
                   replace H := Option.bind_eq_some_iff.mp H
                   obtain ⟨t377, A270, H⟩ := H
                   replace H : (if t377 = true then (gantrylaw7_TypesExact.l2 kj17 l0 x3_1 t368 t371 x6_3 0) else (some false)) = some r := H
                   have A27 := Aside0.mk A270
                   clear A270
                   by_cases c28 : t377 = true
                   ·subst c28
                    have H1 : (gantrylaw7_TypesExact.l2 kj17 l0 x3_1 t368 t371 x6_3 0) = some r := by rw [if_pos rfl] at H; exact H
                    clear H
                    have H := H1
                    clear H1
                    have H' := Aside0.mk H
                    clear H
                    have p375 : 0 ≤ (x3_1 : Int) := of_decide_eq_true (by first | (with_reducible assumption) | assumption)
                    have q375 : x3_1 < (l0.length : Int) := of_decide_eq_true (by first | (with_reducible assumption) | assumption)
                    obtain ⟨ad375, A375_0, c375_0, A375_1, c375_1, A375_2, c375_2, e375, hx375_0, hx375_1, hx375_2, hl375_0, hi375_0, hl375_1, hi375_1, hl375_2, hi375_2⟩ := at_T57 HR0.out x3_1 p375 q375
                    obtain rfl : ad365 = ad375 := (by injection e375)
                    replace hx375_0 := (HB.out.cell (World.block_lt_of_cell? w _ hx375_0)).trans hx375_0
                    replace hx375_1 := (HB.out.cell (World.block_lt_of_cell? w _ hx375_1)).trans hx375_1
                    replace hx375_2 := (HB.out.cell (World.block_lt_of_cell? w _ hx375_2)).trans hx375_2
                    have HR375_0 := Aside0.mk hi375_0
                    have HC375_0 := Aside0.mk hl375_0
                    clear hi375_0 hl375_0
                    have HR375_1 := Aside0.mk hi375_1
                    have HC375_1 := Aside0.mk hl375_1
                    clear hi375_1 hl375_1
                    have HR375_2 := Aside0.mk hi375_2
                    have HC375_2 := Aside0.mk hl375_2
                    clear hi375_2 hl375_2
                    replace p375 := eq_true p375
                    replace q375 := eq_true q375
                    have p376 : 0 ≤ (x6_3 : Int) := of_decide_eq_true (by first | (with_reducible assumption) | assumption)
                    have q376 : x6_3 < (((rd_T57 l0 x3_1).f1).length : Int) := of_decide_eq_true (by first | (with_reducible assumption) | assumption)
                    obtain ⟨ad376, e376, hx376_0⟩ := Kd.at_int HR375_1.out x6_3 p376 q376
                    cases e376
                    replace hx376_0 := (HB.out.cell (World.block_lt_of_cell? w _ hx376_0)).trans hx376_0
                    replace p376 := eq_true p376
                    replace q376 := eq_true q376
                    go_wp2_with (first | ((with_reducible refine gate_callee (f := 34) rfl ?_); refine goesL_ (some 62) rfl rfl Try.func34 (by kernel_rfl) rfl #[.slice Ao15 t368.length co15, .int .i64 (rd ((rd_T57 l0 x3_1).f1) x6_3), .int .i64 t371] rfl (by (try simp only [List.map_toArray, List.map_cons, List.map_nil]); first | done | rfl | (simp only [List.length_drop, List.length_take]; rfl)) ?_; (with_reducible refine (gantrylaw7_sizes.calls kj17 _ _ t368 (rd ((rd_T57 l0 x3_1).f1) x6_3) t371 true _ ?side1 ?side2 A27.out).mono ?_); (case side1 => repeat (first | exact (Kd.S_reads' HO_4.out).2.2 | (with_reducible refine Kd.C_alloc ?_ _) | (with_reducible refine Kd.C_drewN ?_ _) | (with_reducible refine Kd.C_drew ?_))); (case side2 => exact (Kd.S_reads' HO_4.out).2.1); rintro e w29 ⟨rfl, hb⟩; refine ⟨_, rfl, ?_⟩; have n0_ := Aside0.mk (Kd.S_below (by (with_reducible repeat (first | apply Kd.S_alloc | apply Kd.S_drewN | apply Kd.S_drew)); exact HO_4.out) hb); have n1_ := Aside0.mk (below_step (by repeat (first | (with_reducible first | exact HB.out | apply below_alloc | apply pw_below_drewN | apply below_drew1) | exact HB.out)) hb); clear HO_4; clear HB; have HO_4 := n0_; have HB := n1_; clear n0_ n1_; (try clear hb); (try clear hb2); (try clear hk); (try clear hi)))
                    go_loopg [7] kj17 (fun kq v7 w' => ∃ (x7_5 : Int), v7 = .int .i64 x7_5 ∧ Aside0 (gantrylaw7_TypesExact.l2 kq l0 x3_1 t368 t371 x6_3 x7_5 = some r) ∧ Aside0 (kq ≤ kj17) ∧ Aside0 (Kd.S k124 124 w' w.heap.size (fun _ => True) (.slice Ao15 t368.length co15) t368) ∧ Aside0 (Below w.heap.size w w'))
                    case atStart => exact ⟨(0), (by first | rfl | (simp; done) | (simp [*]; done)), H', ⟨Nat.le_refl _⟩, ⟨by (with_reducible repeat (first | apply Kd.S_alloc | apply Kd.S_drewN | apply Kd.S_drew)); exact HO_4.out⟩, ⟨by repeat (first | (with_reducible first | exact HB.out | apply below_alloc | apply pw_below_drewN | apply below_drew1) | exact HB.out)⟩⟩
                    case round =>
                     clear H'
                     try clear c1
                     try clear c2
                     try clear p2
                     try clear c3
                     try clear c3b0
                     try clear p3
                     try clear q3
                     try clear hx3
                     try clear c4
                     try clear c5
                     try clear c5b0
                     try clear c6
                     try clear c6b0
                     try clear c8
                     try clear c13
                     try clear c13b0
                     try clear c13b1
                     try clear c19
                     try clear c19b0
                     try clear c20
                     try clear c20b0
                     try clear c21
                     try clear c21b0
                     try clear c22
                     try clear c23
                     try clear c23b0
                     try clear c24
                     try clear c24b0
                     try clear c25
                     try clear c25b0
                     try clear c26
                     try clear c26b0
                     try clear c27
                     try clear c28
                     try clear hx365_0
                     try clear hx365_1
                     try clear hx365_2
                     try clear hx367_0
                     try clear hx367_1
                     try clear hx367_2
                     try clear hx374_0
                     try clear hx374_1
                     try clear hx374_2
                     try clear hx375_0
                     try clear hx375_1
                     try clear hx375_2
                     try clear hx376_0
                     try clear p2
                     try clear p3
                     try clear p365
                     try clear p367
                     try clear p374
                     try clear p375
                     try clear p376
                     try clear q3
                     try clear q365
                     try clear q367
                     try clear q374
                     try clear q375
                     try clear q376
                     obtain ⟨x7_5, rfl, HA, HK5, HO_4, HB⟩ := hrel
                     cases gk with
                     | zero => exact absurd HA.out (by simp [gantrylaw7_TypesExact.l2])
                     | succ k5 =>
                      have H := HA.out
                      clear HA
                      simp only [gantrylaw7_TypesExact.l2] at H
                      have HC30 := Aside0.mk H
                      clear H
                      go_upto_region 16 with (fail)
                      go_cut [75] (fun v75 wc => ∃ (kq : Nat) (x75_29 : Bool), v75 = .bool x75_29 ∧ Aside0 (gantrylaw7_TypesExact.j5 kq l0 x3_1 t368 t371 x6_3 x7_5 x75_29 = some r) ∧ Aside0 (kq ≤ k5) ∧ Aside0 (Kd.S k124 124 wc w.heap.size (fun _ => True) (.slice Ao15 t368.length co15) t368) ∧ Aside0 (Below w.heap.size w wc))
                      case first =>
                       have H := HC30.out
                       clear HC30
                       by_cases c31 : 0 ≤ x3_1
                       ·rw [if_pos c31] at H
                        have c31b0 : decide (0 ≤ x3_1) = true := decide_eq_true c31
                        clear c31
                        (first | rw [c31b0] | (simp only [i64_w, i32_w]; rw [c31b0]) | skip)
                        by_cases c32 : x3_1 < (l0.length : Int)
                        ·rw [if_pos c32] at H
                         have c32b0 : decide (x3_1 < (l0.length : Int)) = true := decide_eq_true c32
                         clear c32
                         by_cases c33 : x7_5 < (((rd_T57 l0 x3_1).f2).length : Int)
                         ·rw [if_pos c33] at H
                          have c33b0 : decide (x7_5 < (((rd_T57 l0 x3_1).f2).length : Int)) = true := decide_eq_true c33
                          clear c33
                          have H' := Aside0.mk H
                          clear H
                          have p378 : 0 ≤ (x3_1 : Int) := of_decide_eq_true (by first | (with_reducible assumption) | assumption)
                          have q378 : x3_1 < (l0.length : Int) := of_decide_eq_true (by first | (with_reducible assumption) | assumption)
                          obtain ⟨ad378, A378_0, c378_0, A378_1, c378_1, A378_2, c378_2, e378, hx378_0, hx378_1, hx378_2, hl378_0, hi378_0, hl378_1, hi378_1, hl378_2, hi378_2⟩ := at_T57 HR0.out x3_1 p378 q378
                          obtain rfl : ad365 = ad378 := (by injection e378)
                          replace hx378_0 := (HB.out.cell (World.block_lt_of_cell? w _ hx378_0)).trans hx378_0
                          replace hx378_1 := (HB.out.cell (World.block_lt_of_cell? w _ hx378_1)).trans hx378_1
                          replace hx378_2 := (HB.out.cell (World.block_lt_of_cell? w _ hx378_2)).trans hx378_2
                          have HR378_0 := Aside0.mk hi378_0
                          have HC378_0 := Aside0.mk hl378_0
                          clear hi378_0 hl378_0
                          have HR378_1 := Aside0.mk hi378_1
                          have HC378_1 := Aside0.mk hl378_1
                          clear hi378_1 hl378_1
                          have HR378_2 := Aside0.mk hi378_2
                          have HC378_2 := Aside0.mk hl378_2
                          clear hi378_2 hl378_2
                          replace p378 := eq_true p378
                          replace q378 := eq_true q378
                          go_wp2
                          go_meet
                          case rel => exact ⟨_, (decide (x7_5 < 6)), (by first | rfl | (simp; done) | (simp [*]; done)), H', ⟨by have := HK1.out; have := HJ1.out; have := HK3.out; have := HJ17.out; have := HK5.out; first | omega | exact Nat.le_refl _⟩, ⟨by (with_reducible repeat (first | apply Kd.S_alloc | apply Kd.S_drewN | apply Kd.S_drew)); exact HO_4.out⟩, ⟨by repeat (first | (with_reducible first | exact HB.out | apply below_alloc | apply pw_below_drewN | apply below_drew1) | exact HB.out)⟩⟩
                         ·rw [if_neg c33] at H
                          have c33b0 : decide (x7_5 < (((rd_T57 l0 x3_1).f2).length : Int)) = false := decide_eq_false c33
                          clear c33
                          have H' := Aside0.mk H
                          clear H
                          have p378 : 0 ≤ (x3_1 : Int) := of_decide_eq_true (by first | (with_reducible assumption) | assumption)
                          have q378 : x3_1 < (l0.length : Int) := of_decide_eq_true (by first | (with_reducible assumption) | assumption)
                          obtain ⟨ad378, A378_0, c378_0, A378_1, c378_1, A378_2, c378_2, e378, hx378_0, hx378_1, hx378_2, hl378_0, hi378_0, hl378_1, hi378_1, hl378_2, hi378_2⟩ := at_T57 HR0.out x3_1 p378 q378
                          obtain rfl : ad365 = ad378 := (by injection e378)
                          replace hx378_0 := (HB.out.cell (World.block_lt_of_cell? w _ hx378_0)).trans hx378_0
                          replace hx378_1 := (HB.out.cell (World.block_lt_of_cell? w _ hx378_1)).trans hx378_1
                          replace hx378_2 := (HB.out.cell (World.block_lt_of_cell? w _ hx378_2)).trans hx378_2
                          have HR378_0 := Aside0.mk hi378_0
                          have HC378_0 := Aside0.mk hl378_0
                          clear hi378_0 hl378_0
                          have HR378_1 := Aside0.mk hi378_1
                          have HC378_1 := Aside0.mk hl378_1
                          clear hi378_1 hl378_1
                          have HR378_2 := Aside0.mk hi378_2
                          have HC378_2 := Aside0.mk hl378_2
                          clear hi378_2 hl378_2
                          replace p378 := eq_true p378
                          replace q378 := eq_true q378
                          go_wp2
                          go_meet
                          case rel => exact ⟨_, (false), (by first | rfl | (simp; done) | (simp [*]; done)), H', ⟨by have := HK1.out; have := HJ1.out; have := HK3.out; have := HJ17.out; have := HK5.out; first | omega | exact Nat.le_refl _⟩, ⟨by (with_reducible repeat (first | apply Kd.S_alloc | apply Kd.S_drewN | apply Kd.S_drew)); exact HO_4.out⟩, ⟨by repeat (first | (with_reducible first | exact HB.out | apply below_alloc | apply pw_below_drewN | apply below_drew1) | exact HB.out)⟩⟩
                        ·rw [if_neg c32] at H
                         exact absurd H (by simp)
                       ·rw [if_neg c31] at H
                        exact absurd H (by simp)
                      case rest =>
                       clear HC30
                       try clear c1
                       try clear c2
                       try clear p2
                       try clear c3
                       try clear c3b0
                       try clear p3
                       try clear q3
                       try clear hx3
                       try clear c4
                       try clear c5
                       try clear c5b0
                       try clear c6
                       try clear c6b0
                       try clear c8
                       try clear c13
                       try clear c13b0
                       try clear c13b1
                       try clear c19
                       try clear c19b0
                       try clear c20
                       try clear c20b0
                       try clear c21
                       try clear c21b0
                       try clear c22
                       try clear c23
                       try clear c23b0
                       try clear c24
                       try clear c24b0
                       try clear c25
                       try clear c25b0
                       try clear c26
                       try clear c26b0
                       try clear c27
                       try clear c28
                       try clear c31
                       try clear c31b0
                       try clear c32
                       try clear c32b0
                       try clear c33
                       try clear c33b0
                       try clear hx365_0
                       try clear hx365_1
                       try clear hx365_2
                       try clear hx367_0
                       try clear hx367_1
                       try clear hx367_2
                       try clear hx374_0
                       try clear hx374_1
                       try clear hx374_2
                       try clear hx375_0
                       try clear hx375_1
                       try clear hx375_2
                       try clear hx376_0
                       try clear hx378_0
                       try clear hx378_1
                       try clear hx378_2
                       try clear p2
                       try clear p3
                       try clear p365
                       try clear p367
                       try clear p374
                       try clear p375
                       try clear p376
                       try clear p378
                       try clear q3
                       try clear q365
                       try clear q367
                       try clear q374
                       try clear q375
                       try clear q376
                       try clear q378
                       obtain ⟨kq, x75_29, rfl, HA, HJ29, HO_4, HB⟩ := hcut
                       cases kq with
                       | zero => exact absurd HA.out (by simp [gantrylaw7_TypesExact.j5])
                       | succ kj29 =>
                        have H := HA.out
                        clear HA
                        simp only [gantrylaw7_TypesExact.j5] at H
                        by_cases c34 : x75_29 = true
                        ·subst c34
                         have H1 : (if 0 ≤ x3_1 then (if x3_1 < (l0.length : Int) then (if 0 ≤ x6_3 then (if x6_3 < (((rd_T57 l0 x3_1).f1).length : Int) then (if 0 ≤ x7_5 then (if x7_5 < (((rd_T57 l0 x3_1).f2).length : Int) then ((gantrylaw7_offset.f kj29 t368 (rd ((rd_T57 l0 x3_1).f1) x6_3) (rd ((rd_T57 l0 x3_1).f2) x7_5) t371).bind fun t383 => (if t383 = true then (gantrylaw7_TypesExact.l2 kj29 l0 x3_1 t368 t371 x6_3 (wrap64 (x7_5 + 1))) else (some false))) else (none)) else (none)) else (none)) else (none)) else (none)) else (none)) = some r := by rw [if_pos rfl] at H; exact H
                         clear H
                         have H := H1
                         clear H1
                         by_cases c35 : 0 ≤ x3_1
                         ·rw [if_pos c35] at H
                          have c35b0 : decide (0 ≤ x3_1) = true := decide_eq_true c35
                          clear c35
                          by_cases c36 : x3_1 < (l0.length : Int)
                          ·rw [if_pos c36] at H
                           have c36b0 : decide (x3_1 < (l0.length : Int)) = true := decide_eq_true c36
                           clear c36
                           by_cases c37 : 0 ≤ x6_3
                           ·rw [if_pos c37] at H
                            have c37b0 : decide (0 ≤ x6_3) = true := decide_eq_true c37
                            clear c37
                            by_cases c38 : x6_3 < (((rd_T57 l0 x3_1).f1).length : Int)
                            ·rw [if_pos c38] at H
                             have c38b0 : decide (x6_3 < (((rd_T57 l0 x3_1).f1).length : Int)) = true := decide_eq_true c38
                             clear c38
                             by_cases c39 : 0 ≤ x7_5
                             ·rw [if_pos c39] at H
                              have c39b0 : decide (0 ≤ x7_5) = true := decide_eq_true c39
                              clear c39
                              by_cases c40 : x7_5 < (((rd_T57 l0 x3_1).f2).length : Int)
                              ·rw [if_pos c40] at H
                               have c40b0 : decide (x7_5 < (((rd_T57 l0 x3_1).f2).length : Int)) = true := decide_eq_true c40
                               clear c40
                               replace H := Option.bind_eq_some_iff.mp H
                               obtain ⟨t383, A410, H⟩ := H
                               replace H : (if t383 = true then (gantrylaw7_TypesExact.l2 kj29 l0 x3_1 t368 t371 x6_3 (wrap64 (x7_5 + 1))) else (some false)) = some r := H
                               have A41 := Aside0.mk A410
                               clear A410
                               by_cases c42 : t383 = true
                               ·subst c42
                                have H1 : (gantrylaw7_TypesExact.l2 kj29 l0 x3_1 t368 t371 x6_3 (wrap64 (x7_5 + 1))) = some r := by rw [if_pos rfl] at H; exact H
                                clear H
                                have H := H1
                                clear H1
                                have H' := Aside0.mk H
                                clear H
                                try go_wp2
                                have n0_ := Aside0.mk (Kd.S_drew HO_4.out)
                                have n1_ := Aside0.mk (below_drew1 HB.out)
                                clear HO_4
                                clear HB
                                have HO_4 := n0_
                                have HB := n1_
                                clear n0_ n1_
                                have p379 : 0 ≤ (x3_1 : Int) := of_decide_eq_true (by first | (with_reducible assumption) | assumption)
                                have q379 : x3_1 < (l0.length : Int) := of_decide_eq_true (by first | (with_reducible assumption) | assumption)
                                obtain ⟨ad379, A379_0, c379_0, A379_1, c379_1, A379_2, c379_2, e379, hx379_0, hx379_1, hx379_2, hl379_0, hi379_0, hl379_1, hi379_1, hl379_2, hi379_2⟩ := at_T57 HR0.out x3_1 p379 q379
                                have hw379_2 := hx379_2
                                have hw379_1 := hx379_1
                                have hw379_0 := hx379_0
                                obtain rfl : ad365 = ad379 := (by injection e379)
                                replace hx379_0 := (HB.out.cell (World.block_lt_of_cell? w _ hx379_0)).trans hx379_0
                                replace hx379_1 := (HB.out.cell (World.block_lt_of_cell? w _ hx379_1)).trans hx379_1
                                replace hx379_2 := (HB.out.cell (World.block_lt_of_cell? w _ hx379_2)).trans hx379_2
                                have HR379_0 := Aside0.mk hi379_0
                                have HC379_0 := Aside0.mk hl379_0
                                clear hi379_0 hl379_0
                                have HR379_1 := Aside0.mk hi379_1
                                have HC379_1 := Aside0.mk hl379_1
                                clear hi379_1 hl379_1
                                have HR379_2 := Aside0.mk hi379_2
                                have HC379_2 := Aside0.mk hl379_2
                                clear hi379_2 hl379_2
                                replace p379 := eq_true p379
                                replace q379 := eq_true q379
                                have p380 : 0 ≤ (x6_3 : Int) := of_decide_eq_true (by first | (with_reducible assumption) | assumption)
                                have q380 : x6_3 < (((rd_T57 l0 x3_1).f1).length : Int) := of_decide_eq_true (by first | (with_reducible assumption) | assumption)
                                obtain ⟨ad380, e380, hx380_0⟩ := Kd.at_int HR379_1.out x6_3 p380 q380
                                have hw380_0 := hx380_0
                                cases e380
                                replace hx380_0 := (HB.out.cell (World.block_lt_of_cell? w _ hx380_0)).trans hx380_0
                                replace p380 := eq_true p380
                                replace q380 := eq_true q380
                                have p381 : 0 ≤ (x3_1 : Int) := of_decide_eq_true (by first | (with_reducible assumption) | assumption)
                                have q381 : x3_1 < (l0.length : Int) := of_decide_eq_true (by first | (with_reducible assumption) | assumption)
                                obtain ⟨ad381, A381_0, c381_0, A381_1, c381_1, A381_2, c381_2, e381, hx381_0, hx381_1, hx381_2, hl381_0, hi381_0, hl381_1, hi381_1, hl381_2, hi381_2⟩ := at_T57 HR0.out x3_1 p381 q381
                                have hw381_2 := hx381_2
                                have hw381_1 := hx381_1
                                have hw381_0 := hx381_0
                                obtain rfl : ad365 = ad381 := (by injection e381)
                                replace hx381_0 := (HB.out.cell (World.block_lt_of_cell? w _ hx381_0)).trans hx381_0
                                replace hx381_1 := (HB.out.cell (World.block_lt_of_cell? w _ hx381_1)).trans hx381_1
                                replace hx381_2 := (HB.out.cell (World.block_lt_of_cell? w _ hx381_2)).trans hx381_2
                                have HR381_0 := Aside0.mk hi381_0
                                have HC381_0 := Aside0.mk hl381_0
                                clear hi381_0 hl381_0
                                have HR381_1 := Aside0.mk hi381_1
                                have HC381_1 := Aside0.mk hl381_1
                                clear hi381_1 hl381_1
                                have HR381_2 := Aside0.mk hi381_2
                                have HC381_2 := Aside0.mk hl381_2
                                clear hi381_2 hl381_2
                                replace p381 := eq_true p381
                                replace q381 := eq_true q381
                                have ea_ := Option.some.inj (hx379_0.symm.trans hx381_0)
                                injection ea_ with ea_ en_ ec_
                                subst ea_
                                subst ec_
                                clear en_
                                have ea_ := Option.some.inj (hx379_1.symm.trans hx381_1)
                                injection ea_ with ea_ en_ ec_
                                subst ea_
                                subst ec_
                                clear en_
                                have ea_ := Option.some.inj (hx379_2.symm.trans hx381_2)
                                injection ea_ with ea_ en_ ec_
                                subst ea_
                                subst ec_
                                clear en_
                                have p382 : 0 ≤ (x7_5 : Int) := of_decide_eq_true (by first | (with_reducible assumption) | assumption)
                                have q382 : x7_5 < (((rd_T57 l0 x3_1).f2).length : Int) := of_decide_eq_true (by first | (with_reducible assumption) | assumption)
                                obtain ⟨ad382, e382, hx382_0⟩ := Kd.at_int HR381_2.out x7_5 p382 q382
                                have hw382_0 := hx382_0
                                cases e382
                                replace hx382_0 := (HB.out.cell (World.block_lt_of_cell? w _ hx382_0)).trans hx382_0
                                replace p382 := eq_true p382
                                replace q382 := eq_true q382
                                refine start_ (n := 20) (S := fun w' => w'.cell? (ad365.add ((x3_1).toNat * 3)) = some (.slice A379_0 ((rd_T57 l0 x3_1).f0).length c379_0) ∧ w'.cell? ⟨(ad365.add ((x3_1).toNat * 3)).block, (ad365.add ((x3_1).toNat * 3)).off + 1, none⟩ = some (.slice (some ad380) ((rd_T57 l0 x3_1).f1).length c379_1) ∧ w'.cell? ⟨(ad365.add ((x3_1).toNat * 3)).block, (ad365.add ((x3_1).toNat * 3)).off + 2, none⟩ = some (.slice (some ad382) ((rd_T57 l0 x3_1).f2).length c379_2) ∧ w'.cell? (ad380.add (x6_3).toNat) = some (.int .i64 (rd ((rd_T57 l0 x3_1).f1) x6_3)) ∧ w'.cell? (ad365.add ((x3_1).toNat * 3)) = some (.slice A379_0 ((rd_T57 l0 x3_1).f0).length c379_0) ∧ w'.cell? ⟨(ad365.add ((x3_1).toNat * 3)).block, (ad365.add ((x3_1).toNat * 3)).off + 1, none⟩ = some (.slice (some ad380) ((rd_T57 l0 x3_1).f1).length c379_1) ∧ w'.cell? ⟨(ad365.add ((x3_1).toNat * 3)).block, (ad365.add ((x3_1).toNat * 3)).off + 2, none⟩ = some (.slice (some ad382) ((rd_T57 l0 x3_1).f2).length c379_2) ∧ w'.cell? (ad382.add (x7_5).toNat) = some (.int .i64 (rd ((rd_T57 l0 x3_1).f2) x7_5))) (ds := []) #[false, false, false, false, false, false, false, false, false, false, false, false, false, false, false, false, false, false, false, false] (by kernel_rfl) rfl rfl ⟨((HB.out.cell (World.block_lt_of_cell? w _ hw379_0)).trans hw379_0), ((HB.out.cell (World.block_lt_of_cell? w _ hw379_1)).trans hw379_1), ((HB.out.cell (World.block_lt_of_cell? w _ hw379_2)).trans hw379_2), ((HB.out.cell (World.block_lt_of_cell? w _ hw380_0)).trans hw380_0), ((HB.out.cell (World.block_lt_of_cell? w _ hw381_0)).trans hw381_0), ((HB.out.cell (World.block_lt_of_cell? w _ hw381_1)).trans hw381_1), ((HB.out.cell (World.block_lt_of_cell? w _ hw381_2)).trans hw381_2), ((HB.out.cell (World.block_lt_of_cell? w _ hw382_0)).trans hw382_0)⟩ (fun hHeld => ?_); refine with_tabW gantrylaw7_TypesExact.tab18 gantrylaw7_TypesExact.bits18 (fun HT_ HW_ => ?_)
                                generalize wc.drew = w43 at HO_4 HB HR379_0 HR379_1 HR379_2 HR381_0 HR381_1 HR381_2 hx379_0 hx379_1 hx379_2 hx380_0 hx381_0 hx381_1 hx381_2 hx382_0 hHeld ⊢
                                refine pure_ (i := 0) (N := some 78) (v := ?_) (a' := ?_) #[true, false, false, false, false, false, false, false, false, false, false, false, false, false, false, false, false, false, false, false] rfl rfl (any_of HT_.out (by kernel_rfl)) (fun _ _ _ h => h) (Or.inl ⟨by rfl, ?_⟩) ?_ ?_
                                rotate_left
                                ·intro w'
                                 go_simp
                                 with_reducible rfl
                                rotate_left
                                ·simp only [Act.put, List.setIfInBounds_toArray, List.set_cons_zero, List.set_cons_succ, i64_w, i32_w]
                                 rfl
                                refine pure_ (i := 1) (N := some 79) (v := ?_) (a' := ?_) #[true, true, false, false, false, false, false, false, false, false, false, false, false, false, false, false, false, false, false, false] rfl rfl (any_of HT_.out (by kernel_rfl)) (fun _ _ _ h => h) (Or.inl ⟨by rfl, ?_⟩) ?_ ?_
                                rotate_left
                                ·intro w'
                                 go_simp
                                 with_reducible rfl
                                rotate_left
                                ·simp only [Act.put, List.setIfInBounds_toArray, List.set_cons_zero, List.set_cons_succ, i64_w, i32_w]
                                 rfl
                                refine pure_ (i := 2) (N := some 80) (v := ?_) (a' := ?_) #[true, true, true, false, false, false, false, false, false, false, false, false, false, false, false, false, false, false, false, false] rfl rfl (any_of HT_.out (by kernel_rfl)) (fun _ _ _ h => h) (Or.inl ⟨by rfl, ?_⟩) ?_ ?_
                                rotate_left
                                ·intro w'
                                 go_simp
                                 with_reducible rfl
                                rotate_left
                                ·simp only [Act.put, List.setIfInBounds_toArray, List.set_cons_zero, List.set_cons_succ, i64_w, i32_w]
                                 rfl
                                refine pure_ (i := 3) (N := some 81) (v := ?_) (a' := ?_) #[true, true, true, true, false, false, false, false, false, false, false, false, false, false, false, false, false, false, false, false] rfl rfl (any_of HT_.out (by kernel_rfl)) (fun _ _ _ h => h) (Or.inl ⟨by rfl, ?_⟩) ?_ ?_
                                rotate_left
                                ·intro w'
                                 go_simp
                                 with_reducible rfl
                                rotate_left
                                ·simp only [Act.put, List.setIfInBounds_toArray, List.set_cons_zero, List.set_cons_succ, i64_w, i32_w]
                                 rfl
                                refine pure_ (i := 4) (N := some 82) (v := ?_) (a' := ?_) #[true, true, true, true, true, false, false, false, false, false, false, false, false, false, false, false, false, false, false, false] rfl rfl (any_of HT_.out (by kernel_rfl)) (fun _ _ _ h => h) (Or.inl ⟨by rfl, ?_⟩) ?_ ?_
                                rotate_left
                                ·intro w'
                                 go_simp
                                 with_reducible rfl
                                rotate_left
                                ·simp only [Act.put, List.setIfInBounds_toArray, List.set_cons_zero, List.set_cons_succ, i64_w, i32_w]
                                 rfl
                                refine pure_ (i := 6) (N := some 84) (v := ?_) (a' := ?_) #[true, true, true, true, true, false, true, false, false, false, false, false, false, false, false, false, false, false, false, false] rfl rfl (any_of HT_.out (by kernel_rfl)) (fun _ _ _ h => h) (Or.inl ⟨by rfl, ?_⟩) ?_ ?_
                                rotate_left
                                ·intro w'
                                 go_simp
                                 with_reducible rfl
                                rotate_left
                                ·simp only [Act.put, List.setIfInBounds_toArray, List.set_cons_zero, List.set_cons_succ, i64_w, i32_w]
                                 rfl
                                refine pure_ (i := 9) (N := some 87) (v := ?_) (a' := ?_) #[true, true, true, true, true, false, true, false, false, true, false, false, false, false, false, false, false, false, false, false] rfl rfl (any_of HT_.out (by kernel_rfl)) (fun _ _ _ h => h) (Or.inl ⟨by rfl, ?_⟩) ?_ ?_
                                rotate_left
                                ·intro w'
                                 go_simp
                                 with_reducible rfl
                                rotate_left
                                ·simp only [Act.put, List.setIfInBounds_toArray, List.set_cons_zero, List.set_cons_succ, i64_w, i32_w]
                                 rfl
                                refine pure_ (i := 10) (N := some 88) (v := ?_) (a' := ?_) #[true, true, true, true, true, false, true, false, false, true, true, false, false, false, false, false, false, false, false, false] rfl rfl (any_of HT_.out (by kernel_rfl)) (fun _ _ _ h => h) (Or.inl ⟨by rfl, ?_⟩) ?_ ?_
                                rotate_left
                                ·intro w'
                                 go_simp
                                 with_reducible rfl
                                rotate_left
                                ·simp only [Act.put, List.setIfInBounds_toArray, List.set_cons_zero, List.set_cons_succ, i64_w, i32_w]
                                 rfl
                                refine pure_ (i := 11) (N := some 89) (v := ?_) (a' := ?_) #[true, true, true, true, true, false, true, false, false, true, true, true, false, false, false, false, false, false, false, false] rfl rfl (any_of HT_.out (by kernel_rfl)) (fun _ _ _ h => h) (Or.inl ⟨by rfl, ?_⟩) ?_ ?_
                                rotate_left
                                ·intro w'
                                 go_simp
                                 with_reducible rfl
                                rotate_left
                                ·simp only [Act.put, List.setIfInBounds_toArray, List.set_cons_zero, List.set_cons_succ, i64_w, i32_w]
                                 rfl
                                refine pure_ (i := 12) (N := some 90) (v := ?_) (a' := ?_) #[true, true, true, true, true, false, true, false, false, true, true, true, true, false, false, false, false, false, false, false] rfl rfl (any_of HT_.out (by kernel_rfl)) (fun _ _ _ h => h) (Or.inl ⟨by rfl, ?_⟩) ?_ ?_
                                rotate_left
                                ·intro w'
                                 go_simp
                                 with_reducible rfl
                                rotate_left
                                ·simp only [Act.put, List.setIfInBounds_toArray, List.set_cons_zero, List.set_cons_succ, i64_w, i32_w]
                                 rfl
                                refine pure_ (i := 14) (N := some 92) (v := ?_) (a' := ?_) #[true, true, true, true, true, false, true, false, false, true, true, true, true, false, true, false, false, false, false, false] rfl rfl (any_of HT_.out (by kernel_rfl)) (fun _ _ _ h => h) (Or.inl ⟨by rfl, ?_⟩) ?_ ?_
                                rotate_left
                                ·intro w'
                                 go_simp
                                 with_reducible rfl
                                rotate_left
                                ·simp only [Act.put, List.setIfInBounds_toArray, List.set_cons_zero, List.set_cons_succ, i64_w, i32_w]
                                 rfl
                                refine pure_ (i := 17) (N := some 95) (v := ?_) (a' := ?_) #[true, true, true, true, true, false, true, false, false, true, true, true, true, false, true, false, false, true, false, false] rfl rfl (any_of HT_.out (by kernel_rfl)) (fun _ _ _ h => h) (Or.inl ⟨by rfl, ?_⟩) ?_ ?_
                                rotate_left
                                ·intro w'
                                 go_simp
                                 with_reducible rfl
                                rotate_left
                                ·simp only [Act.put, List.setIfInBounds_toArray, List.set_cons_zero, List.set_cons_succ, i64_w, i32_w]
                                 rfl
                                refine take_ (i := 5) (N := some 83) (v := ?_) (a' := ?_) #[true, true, true, true, true, true, true, false, false, true, true, true, true, false, true, false, false, true, false, false] rfl rfl (take_ofW HT_.out HW_.out (by kernel_rfl)) (fun _ _ _ h => h) (Or.inl ⟨by rfl, ?_⟩) hHeld ?_ ?_
                                rotate_left
                                ·rintro w' ⟨s0, s1, s2, s3, s4, s5, s6, s7⟩
                                 go_simp
                                 with_reducible rfl
                                rotate_left
                                ·simp only [Act.put, List.setIfInBounds_toArray, List.set_cons_zero, List.set_cons_succ, i64_w, i32_w]
                                 rfl
                                refine pure_ (i := 7) (N := some 85) (v := ?_) (a' := ?_) #[true, true, true, true, true, true, true, true, false, true, true, true, true, false, true, false, false, true, false, false] rfl rfl (any_of HT_.out (by kernel_rfl)) (fun _ _ _ h => h) (Or.inl ⟨by rfl, ?_⟩) ?_ ?_
                                rotate_left
                                ·intro w'
                                 go_simp
                                 with_reducible rfl
                                rotate_left
                                ·simp only [Act.put, List.setIfInBounds_toArray, List.set_cons_zero, List.set_cons_succ, i64_w, i32_w]
                                 rfl
                                refine take_ (i := 8) (N := some 86) (v := ?_) (a' := ?_) #[true, true, true, true, true, true, true, true, true, true, true, true, true, false, true, false, false, true, false, false] rfl rfl (take_ofW HT_.out HW_.out (by kernel_rfl)) (fun _ _ _ h => h) (Or.inl ⟨by rfl, ?_⟩) hHeld ?_ ?_
                                rotate_left
                                ·rintro w' ⟨s0, s1, s2, s3, s4, s5, s6, s7⟩
                                 go_simp
                                 with_reducible rfl
                                rotate_left
                                ·simp only [Act.put, List.setIfInBounds_toArray, List.set_cons_zero, List.set_cons_succ, i64_w, i32_w]
                                 rfl
                                refine take_ (i := 13) (N := some 91) (v := ?_) (a' := ?_) #[true, true, true, true, true, true, true, true, true, true, true, true, true, true, true, false, false, true, false, false] rfl rfl (take_ofW HT_.out HW_.out (by kernel_rfl)) (fun _ _ _ h => h) (Or.inl ⟨by rfl, ?_⟩) hHeld ?_ ?_
                                rotate_left
                                ·rintro w' ⟨s0, s1, s2, s3, s4, s5, s6, s7⟩
                                 go_simp
                                 with_reducible rfl
                                rotate_left
                                ·simp only [Act.put, List.setIfInBounds_toArray, List.set_cons_zero, List.set_cons_succ, i64_w, i32_w]
                                 rfl
                                refine pure_ (i := 15) (N := some 93) (v := ?_) (a' := ?_) #[true, true, true, true, true, true, true, true, true, true, true, true, true, true, true, true, false, true, false, false] rfl rfl (any_of HT_.out (by kernel_rfl)) (fun _ _ _ h => h) (Or.inl ⟨by rfl, ?_⟩) ?_ ?_
                                rotate_left
                                ·intro w'
                                 go_simp
                                 with_reducible rfl
                                rotate_left
                                ·simp only [Act.put, List.setIfInBounds_toArray, List.set_cons_zero, List.set_cons_succ, i64_w, i32_w]
                                 rfl
                                refine take_ (i := 16) (N := some 94) (v := ?_) (a' := ?_) #[true, true, true, true, true, true, true, true, true, true, true, true, true, true, true, true, true, true, false, false] rfl rfl (take_ofW HT_.out HW_.out (by kernel_rfl)) (fun _ _ _ h => h) (Or.inl ⟨by rfl, ?_⟩) hHeld ?_ ?_
                                rotate_left
                                ·rintro w' ⟨s0, s1, s2, s3, s4, s5, s6, s7⟩
                                 go_simp
                                 with_reducible rfl
                                rotate_left
                                ·simp only [Act.put, List.setIfInBounds_toArray, List.set_cons_zero, List.set_cons_succ, i64_w, i32_w]
                                 rfl
                                refine one_ (i := 18) (N := some 96) #[true, true, true, true, true, true, true, true, true, true, true, true, true, true, true, true, true, true, true, false] rfl rfl (one_of HT_.out (by kernel_rfl)) (by decide) (fun K hK => ?_)
                                refine goes_ Try.func35 (by kernel_rfl) rfl #[.slice Ao15 t368.length co15, .int .i64 (rd ((rd_T57 l0 x3_1).f1) x6_3), .int .i64 (rd ((rd_T57 l0 x3_1).f2) x7_5), .int .i64 t371] (by rfl) rfl rfl (by (try simp only [List.map_toArray, List.map_cons, List.map_nil]); first | done | rfl | (simp only [List.length_drop, List.length_take]; rfl)) ?_
                                with_reducible refine (gantrylaw7_offset.calls kj29 _ _ t368 (rd ((rd_T57 l0 x3_1).f1) x6_3) (rd ((rd_T57 l0 x3_1).f2) x7_5) t371 true _ ?side1 ?side2 A41.out).mono ?_
                                (case side1 => repeat (first | exact (Kd.S_reads' HO_4.out).2.2 | (with_reducible refine Kd.C_alloc ?_ _) | (with_reducible refine Kd.C_drewN ?_ _) | (with_reducible refine Kd.C_drew ?_)))
                                (case side2 => exact (Kd.S_reads' HO_4.out).2.1)
                                rintro e w44 ⟨rfl, hb⟩
                                refine ⟨_, rfl, ?_⟩
                                have n0_ := Aside0.mk (Kd.S_below (by (with_reducible repeat (first | apply Kd.S_alloc | apply Kd.S_drewN | apply Kd.S_drew)); exact HO_4.out) hb)
                                have n1_ := Aside0.mk (below_step (by repeat (first | (with_reducible first | exact HB.out | apply below_alloc | apply pw_below_drewN | apply below_drew1) | exact HB.out)) hb)
                                clear HO_4
                                clear HB
                                have HO_4 := n0_
                                have HB := n1_
                                clear n0_ n1_
                                (try clear hb)
                                (try clear hb2)
                                (try clear hk)
                                (try clear hi)
                                refine hK.out _ _ ⟨((HB.out.cell (World.block_lt_of_cell? w _ hw379_0)).trans hw379_0), ((HB.out.cell (World.block_lt_of_cell? w _ hw379_1)).trans hw379_1), ((HB.out.cell (World.block_lt_of_cell? w _ hw379_2)).trans hw379_2), ((HB.out.cell (World.block_lt_of_cell? w _ hw380_0)).trans hw380_0), ((HB.out.cell (World.block_lt_of_cell? w _ hw381_0)).trans hw381_0), ((HB.out.cell (World.block_lt_of_cell? w _ hw381_1)).trans hw381_1), ((HB.out.cell (World.block_lt_of_cell? w _ hw381_2)).trans hw381_2), ((HB.out.cell (World.block_lt_of_cell? w _ hw382_0)).trans hw382_0)⟩ (fun hHeld => ?_)
                                clear hK K
                                refine norm_ (a' := ?_) ?_ ?_
                                rotate_left
                                ·show Act.put _ (some 96) _ = _
                                 simp only [Act.put, List.setIfInBounds_toArray, List.set_cons_zero, List.set_cons_succ, i64_w, i32_w]
                                 rfl
                                refine pure_ (i := 19) (N := some 97) (v := ?_) (a' := ?_) #[true, true, true, true, true, true, true, true, true, true, true, true, true, true, true, true, true, true, true, true] rfl rfl (any_of HT_.out (by kernel_rfl)) (fun _ _ _ h => h) (Or.inl ⟨by rfl, ?_⟩) ?_ ?_
                                rotate_left
                                ·intro w'
                                 go_simp
                                 with_reducible rfl
                                rotate_left
                                ·simp only [Act.put, List.setIfInBounds_toArray, List.set_cons_zero, List.set_cons_succ, i64_w, i32_w]
                                 rfl
                                refine done_ (done_of HT_.out (by kernel_rfl)) ?_
                                try go_wp2
                                go_roundg kj29
                                case measure => have := HK1.out; have := HJ1.out; have := HK3.out; have := HJ17.out; have := HK5.out; have := HJ29.out; omega
                                case rel => exact ⟨(wrap64 (x7_5 + 1)), (by first | rfl | (simp; done) | (simp [*]; done)), H', ⟨by have := HK1.out; have := HJ1.out; have := HK3.out; have := HJ17.out; have := HK5.out; have := HJ29.out; omega⟩, ⟨by (with_reducible repeat (first | apply Kd.S_alloc | apply Kd.S_drewN | apply Kd.S_drew)); exact HO_4.out⟩, ⟨by repeat (first | (with_reducible first | exact HB.out | apply below_alloc | apply pw_below_drewN | apply below_drew1) | exact HB.out)⟩⟩
                               ·replace c42 := Bool.eq_false_iff.mpr c42
                                subst c42
                                have H1 : (some false) = some r := by rw [if_neg (show ¬ (false = true) by decide)] at H; exact H
                                clear H
                                have H := H1
                                clear H1
                                obtain rfl := Option.some.inj H
                                try go_wp2
                                have n0_ := Aside0.mk (Kd.S_drew HO_4.out)
                                have n1_ := Aside0.mk (below_drew1 HB.out)
                                clear HO_4
                                clear HB
                                have HO_4 := n0_
                                have HB := n1_
                                clear n0_ n1_
                                have p379 : 0 ≤ (x3_1 : Int) := of_decide_eq_true (by first | (with_reducible assumption) | assumption)
                                have q379 : x3_1 < (l0.length : Int) := of_decide_eq_true (by first | (with_reducible assumption) | assumption)
                                obtain ⟨ad379, A379_0, c379_0, A379_1, c379_1, A379_2, c379_2, e379, hx379_0, hx379_1, hx379_2, hl379_0, hi379_0, hl379_1, hi379_1, hl379_2, hi379_2⟩ := at_T57 HR0.out x3_1 p379 q379
                                have hw379_2 := hx379_2
                                have hw379_1 := hx379_1
                                have hw379_0 := hx379_0
                                obtain rfl : ad365 = ad379 := (by injection e379)
                                replace hx379_0 := (HB.out.cell (World.block_lt_of_cell? w _ hx379_0)).trans hx379_0
                                replace hx379_1 := (HB.out.cell (World.block_lt_of_cell? w _ hx379_1)).trans hx379_1
                                replace hx379_2 := (HB.out.cell (World.block_lt_of_cell? w _ hx379_2)).trans hx379_2
                                have HR379_0 := Aside0.mk hi379_0
                                have HC379_0 := Aside0.mk hl379_0
                                clear hi379_0 hl379_0
                                have HR379_1 := Aside0.mk hi379_1
                                have HC379_1 := Aside0.mk hl379_1
                                clear hi379_1 hl379_1
                                have HR379_2 := Aside0.mk hi379_2
                                have HC379_2 := Aside0.mk hl379_2
                                clear hi379_2 hl379_2
                                replace p379 := eq_true p379
                                replace q379 := eq_true q379
                                have p380 : 0 ≤ (x6_3 : Int) := of_decide_eq_true (by first | (with_reducible assumption) | assumption)
                                have q380 : x6_3 < (((rd_T57 l0 x3_1).f1).length : Int) := of_decide_eq_true (by first | (with_reducible assumption) | assumption)
                                obtain ⟨ad380, e380, hx380_0⟩ := Kd.at_int HR379_1.out x6_3 p380 q380
                                have hw380_0 := hx380_0
                                cases e380
                                replace hx380_0 := (HB.out.cell (World.block_lt_of_cell? w _ hx380_0)).trans hx380_0
                                replace p380 := eq_true p380
                                replace q380 := eq_true q380
                                have p381 : 0 ≤ (x3_1 : Int) := of_decide_eq_true (by first | (with_reducible assumption) | assumption)
                                have q381 : x3_1 < (l0.length : Int) := of_decide_eq_true (by first | (with_reducible assumption) | assumption)
                                obtain ⟨ad381, A381_0, c381_0, A381_1, c381_1, A381_2, c381_2, e381, hx381_0, hx381_1, hx381_2, hl381_0, hi381_0, hl381_1, hi381_1, hl381_2, hi381_2⟩ := at_T57 HR0.out x3_1 p381 q381
                                have hw381_2 := hx381_2
                                have hw381_1 := hx381_1
                                have hw381_0 := hx381_0
                                obtain rfl : ad365 = ad381 := (by injection e381)
                                replace hx381_0 := (HB.out.cell (World.block_lt_of_cell? w _ hx381_0)).trans hx381_0
                                replace hx381_1 := (HB.out.cell (World.block_lt_of_cell? w _ hx381_1)).trans hx381_1
                                replace hx381_2 := (HB.out.cell (World.block_lt_of_cell? w _ hx381_2)).trans hx381_2
                                have HR381_0 := Aside0.mk hi381_0
                                have HC381_0 := Aside0.mk hl381_0
                                clear hi381_0 hl381_0
                                have HR381_1 := Aside0.mk hi381_1
                                have HC381_1 := Aside0.mk hl381_1
                                clear hi381_1 hl381_1
                                have HR381_2 := Aside0.mk hi381_2
                                have HC381_2 := Aside0.mk hl381_2
                                clear hi381_2 hl381_2
                                replace p381 := eq_true p381
                                replace q381 := eq_true q381
                                have ea_ := Option.some.inj (hx379_0.symm.trans hx381_0)
                                injection ea_ with ea_ en_ ec_
                                subst ea_
                                subst ec_
                                clear en_
                                have ea_ := Option.some.inj (hx379_1.symm.trans hx381_1)
                                injection ea_ with ea_ en_ ec_
                                subst ea_
                                subst ec_
                                clear en_
                                have ea_ := Option.some.inj (hx379_2.symm.trans hx381_2)
                                injection ea_ with ea_ en_ ec_
                                subst ea_
                                subst ec_
                                clear en_
                                have p382 : 0 ≤ (x7_5 : Int) := of_decide_eq_true (by first | (with_reducible assumption) | assumption)
                                have q382 : x7_5 < (((rd_T57 l0 x3_1).f2).length : Int) := of_decide_eq_true (by first | (with_reducible assumption) | assumption)
                                obtain ⟨ad382, e382, hx382_0⟩ := Kd.at_int HR381_2.out x7_5 p382 q382
                                have hw382_0 := hx382_0
                                cases e382
                                replace hx382_0 := (HB.out.cell (World.block_lt_of_cell? w _ hx382_0)).trans hx382_0
                                replace p382 := eq_true p382
                                replace q382 := eq_true q382
                                refine start_ (n := 20) (S := fun w' => w'.cell? (ad365.add ((x3_1).toNat * 3)) = some (.slice A379_0 ((rd_T57 l0 x3_1).f0).length c379_0) ∧ w'.cell? ⟨(ad365.add ((x3_1).toNat * 3)).block, (ad365.add ((x3_1).toNat * 3)).off + 1, none⟩ = some (.slice (some ad380) ((rd_T57 l0 x3_1).f1).length c379_1) ∧ w'.cell? ⟨(ad365.add ((x3_1).toNat * 3)).block, (ad365.add ((x3_1).toNat * 3)).off + 2, none⟩ = some (.slice (some ad382) ((rd_T57 l0 x3_1).f2).length c379_2) ∧ w'.cell? (ad380.add (x6_3).toNat) = some (.int .i64 (rd ((rd_T57 l0 x3_1).f1) x6_3)) ∧ w'.cell? (ad365.add ((x3_1).toNat * 3)) = some (.slice A379_0 ((rd_T57 l0 x3_1).f0).length c379_0) ∧ w'.cell? ⟨(ad365.add ((x3_1).toNat * 3)).block, (ad365.add ((x3_1).toNat * 3)).off + 1, none⟩ = some (.slice (some ad380) ((rd_T57 l0 x3_1).f1).length c379_1) ∧ w'.cell? ⟨(ad365.add ((x3_1).toNat * 3)).block, (ad365.add ((x3_1).toNat * 3)).off + 2, none⟩ = some (.slice (some ad382) ((rd_T57 l0 x3_1).f2).length c379_2) ∧ w'.cell? (ad382.add (x7_5).toNat) = some (.int .i64 (rd ((rd_T57 l0 x3_1).f2) x7_5))) (ds := []) #[false, false, false, false, false, false, false, false, false, false, false, false, false, false, false, false, false, false, false, false] (by kernel_rfl) rfl rfl ⟨((HB.out.cell (World.block_lt_of_cell? w _ hw379_0)).trans hw379_0), ((HB.out.cell (World.block_lt_of_cell? w _ hw379_1)).trans hw379_1), ((HB.out.cell (World.block_lt_of_cell? w _ hw379_2)).trans hw379_2), ((HB.out.cell (World.block_lt_of_cell? w _ hw380_0)).trans hw380_0), ((HB.out.cell (World.block_lt_of_cell? w _ hw381_0)).trans hw381_0), ((HB.out.cell (World.block_lt_of_cell? w _ hw381_1)).trans hw381_1), ((HB.out.cell (World.block_lt_of_cell? w _ hw381_2)).trans hw381_2), ((HB.out.cell (World.block_lt_of_cell? w _ hw382_0)).trans hw382_0)⟩ (fun hHeld => ?_); refine with_tabW gantrylaw7_TypesExact.tab18 gantrylaw7_TypesExact.bits18 (fun HT_ HW_ => ?_)
                                generalize wc.drew = w45 at HO_4 HB HR379_0 HR379_1 HR379_2 HR381_0 HR381_1 HR381_2 hx379_0 hx379_1 hx379_2 hx380_0 hx381_0 hx381_1 hx381_2 hx382_0 hHeld ⊢
                                refine pure_ (i := 0) (N := some 78) (v := ?_) (a' := ?_) #[true, false, false, false, false, false, false, false, false, false, false, false, false, false, false, false, false, false, false, false] rfl rfl (any_of HT_.out (by kernel_rfl)) (fun _ _ _ h => h) (Or.inl ⟨by rfl, ?_⟩) ?_ ?_
                                rotate_left
                                ·intro w'
                                 go_simp
                                 with_reducible rfl
                                rotate_left
                                ·simp only [Act.put, List.setIfInBounds_toArray, List.set_cons_zero, List.set_cons_succ, i64_w, i32_w]
                                 rfl
                                refine pure_ (i := 1) (N := some 79) (v := ?_) (a' := ?_) #[true, true, false, false, false, false, false, false, false, false, false, false, false, false, false, false, false, false, false, false] rfl rfl (any_of HT_.out (by kernel_rfl)) (fun _ _ _ h => h) (Or.inl ⟨by rfl, ?_⟩) ?_ ?_
                                rotate_left
                                ·intro w'
                                 go_simp
                                 with_reducible rfl
                                rotate_left
                                ·simp only [Act.put, List.setIfInBounds_toArray, List.set_cons_zero, List.set_cons_succ, i64_w, i32_w]
                                 rfl
                                refine pure_ (i := 2) (N := some 80) (v := ?_) (a' := ?_) #[true, true, true, false, false, false, false, false, false, false, false, false, false, false, false, false, false, false, false, false] rfl rfl (any_of HT_.out (by kernel_rfl)) (fun _ _ _ h => h) (Or.inl ⟨by rfl, ?_⟩) ?_ ?_
                                rotate_left
                                ·intro w'
                                 go_simp
                                 with_reducible rfl
                                rotate_left
                                ·simp only [Act.put, List.setIfInBounds_toArray, List.set_cons_zero, List.set_cons_succ, i64_w, i32_w]
                                 rfl
                                refine pure_ (i := 3) (N := some 81) (v := ?_) (a' := ?_) #[true, true, true, true, false, false, false, false, false, false, false, false, false, false, false, false, false, false, false, false] rfl rfl (any_of HT_.out (by kernel_rfl)) (fun _ _ _ h => h) (Or.inl ⟨by rfl, ?_⟩) ?_ ?_
                                rotate_left
                                ·intro w'
                                 go_simp
                                 with_reducible rfl
                                rotate_left
                                ·simp only [Act.put, List.setIfInBounds_toArray, List.set_cons_zero, List.set_cons_succ, i64_w, i32_w]
                                 rfl
                                refine pure_ (i := 4) (N := some 82) (v := ?_) (a' := ?_) #[true, true, true, true, true, false, false, false, false, false, false, false, false, false, false, false, false, false, false, false] rfl rfl (any_of HT_.out (by kernel_rfl)) (fun _ _ _ h => h) (Or.inl ⟨by rfl, ?_⟩) ?_ ?_
                                rotate_left
                                ·intro w'
                                 go_simp
                                 with_reducible rfl
                                rotate_left
                                ·simp only [Act.put, List.setIfInBounds_toArray, List.set_cons_zero, List.set_cons_succ, i64_w, i32_w]
                                 rfl
                                refine pure_ (i := 6) (N := some 84) (v := ?_) (a' := ?_) #[true, true, true, true, true, false, true, false, false, false, false, false, false, false, false, false, false, false, false, false] rfl rfl (any_of HT_.out (by kernel_rfl)) (fun _ _ _ h => h) (Or.inl ⟨by rfl, ?_⟩) ?_ ?_
                                rotate_left
                                ·intro w'
                                 go_simp
                                 with_reducible rfl
                                rotate_left
                                ·simp only [Act.put, List.setIfInBounds_toArray, List.set_cons_zero, List.set_cons_succ, i64_w, i32_w]
                                 rfl
                                refine pure_ (i := 9) (N := some 87) (v := ?_) (a' := ?_) #[true, true, true, true, true, false, true, false, false, true, false, false, false, false, false, false, false, false, false, false] rfl rfl (any_of HT_.out (by kernel_rfl)) (fun _ _ _ h => h) (Or.inl ⟨by rfl, ?_⟩) ?_ ?_
                                rotate_left
                                ·intro w'
                                 go_simp
                                 with_reducible rfl
                                rotate_left
                                ·simp only [Act.put, List.setIfInBounds_toArray, List.set_cons_zero, List.set_cons_succ, i64_w, i32_w]
                                 rfl
                                refine pure_ (i := 10) (N := some 88) (v := ?_) (a' := ?_) #[true, true, true, true, true, false, true, false, false, true, true, false, false, false, false, false, false, false, false, false] rfl rfl (any_of HT_.out (by kernel_rfl)) (fun _ _ _ h => h) (Or.inl ⟨by rfl, ?_⟩) ?_ ?_
                                rotate_left
                                ·intro w'
                                 go_simp
                                 with_reducible rfl
                                rotate_left
                                ·simp only [Act.put, List.setIfInBounds_toArray, List.set_cons_zero, List.set_cons_succ, i64_w, i32_w]
                                 rfl
                                refine pure_ (i := 11) (N := some 89) (v := ?_) (a' := ?_) #[true, true, true, true, true, false, true, false, false, true, true, true, false, false, false, false, false, false, false, false] rfl rfl (any_of HT_.out (by kernel_rfl)) (fun _ _ _ h => h) (Or.inl ⟨by rfl, ?_⟩) ?_ ?_
                                rotate_left
                                ·intro w'
                                 go_simp
                                 with_reducible rfl
                                rotate_left
                                ·simp only [Act.put, List.setIfInBounds_toArray, List.set_cons_zero, List.set_cons_succ, i64_w, i32_w]
                                 rfl
                                refine pure_ (i := 12) (N := some 90) (v := ?_) (a' := ?_) #[true, true, true, true, true, false, true, false, false, true, true, true, true, false, false, false, false, false, false, false] rfl rfl (any_of HT_.out (by kernel_rfl)) (fun _ _ _ h => h) (Or.inl ⟨by rfl, ?_⟩) ?_ ?_
                                rotate_left
                                ·intro w'
                                 go_simp
                                 with_reducible rfl
                                rotate_left
                                ·simp only [Act.put, List.setIfInBounds_toArray, List.set_cons_zero, List.set_cons_succ, i64_w, i32_w]
                                 rfl
                                refine pure_ (i := 14) (N := some 92) (v := ?_) (a' := ?_) #[true, true, true, true, true, false, true, false, false, true, true, true, true, false, true, false, false, false, false, false] rfl rfl (any_of HT_.out (by kernel_rfl)) (fun _ _ _ h => h) (Or.inl ⟨by rfl, ?_⟩) ?_ ?_
                                rotate_left
                                ·intro w'
                                 go_simp
                                 with_reducible rfl
                                rotate_left
                                ·simp only [Act.put, List.setIfInBounds_toArray, List.set_cons_zero, List.set_cons_succ, i64_w, i32_w]
                                 rfl
                                refine pure_ (i := 17) (N := some 95) (v := ?_) (a' := ?_) #[true, true, true, true, true, false, true, false, false, true, true, true, true, false, true, false, false, true, false, false] rfl rfl (any_of HT_.out (by kernel_rfl)) (fun _ _ _ h => h) (Or.inl ⟨by rfl, ?_⟩) ?_ ?_
                                rotate_left
                                ·intro w'
                                 go_simp
                                 with_reducible rfl
                                rotate_left
                                ·simp only [Act.put, List.setIfInBounds_toArray, List.set_cons_zero, List.set_cons_succ, i64_w, i32_w]
                                 rfl
                                refine take_ (i := 5) (N := some 83) (v := ?_) (a' := ?_) #[true, true, true, true, true, true, true, false, false, true, true, true, true, false, true, false, false, true, false, false] rfl rfl (take_ofW HT_.out HW_.out (by kernel_rfl)) (fun _ _ _ h => h) (Or.inl ⟨by rfl, ?_⟩) hHeld ?_ ?_
                                rotate_left
                                ·rintro w' ⟨s0, s1, s2, s3, s4, s5, s6, s7⟩
                                 go_simp
                                 with_reducible rfl
                                rotate_left
                                ·simp only [Act.put, List.setIfInBounds_toArray, List.set_cons_zero, List.set_cons_succ, i64_w, i32_w]
                                 rfl
                                refine pure_ (i := 7) (N := some 85) (v := ?_) (a' := ?_) #[true, true, true, true, true, true, true, true, false, true, true, true, true, false, true, false, false, true, false, false] rfl rfl (any_of HT_.out (by kernel_rfl)) (fun _ _ _ h => h) (Or.inl ⟨by rfl, ?_⟩) ?_ ?_
                                rotate_left
                                ·intro w'
                                 go_simp
                                 with_reducible rfl
                                rotate_left
                                ·simp only [Act.put, List.setIfInBounds_toArray, List.set_cons_zero, List.set_cons_succ, i64_w, i32_w]
                                 rfl
                                refine take_ (i := 8) (N := some 86) (v := ?_) (a' := ?_) #[true, true, true, true, true, true, true, true, true, true, true, true, true, false, true, false, false, true, false, false] rfl rfl (take_ofW HT_.out HW_.out (by kernel_rfl)) (fun _ _ _ h => h) (Or.inl ⟨by rfl, ?_⟩) hHeld ?_ ?_
                                rotate_left
                                ·rintro w' ⟨s0, s1, s2, s3, s4, s5, s6, s7⟩
                                 go_simp
                                 with_reducible rfl
                                rotate_left
                                ·simp only [Act.put, List.setIfInBounds_toArray, List.set_cons_zero, List.set_cons_succ, i64_w, i32_w]
                                 rfl
                                refine take_ (i := 13) (N := some 91) (v := ?_) (a' := ?_) #[true, true, true, true, true, true, true, true, true, true, true, true, true, true, true, false, false, true, false, false] rfl rfl (take_ofW HT_.out HW_.out (by kernel_rfl)) (fun _ _ _ h => h) (Or.inl ⟨by rfl, ?_⟩) hHeld ?_ ?_
                                rotate_left
                                ·rintro w' ⟨s0, s1, s2, s3, s4, s5, s6, s7⟩
                                 go_simp
                                 with_reducible rfl
                                rotate_left
                                ·simp only [Act.put, List.setIfInBounds_toArray, List.set_cons_zero, List.set_cons_succ, i64_w, i32_w]
                                 rfl
                                refine pure_ (i := 15) (N := some 93) (v := ?_) (a' := ?_) #[true, true, true, true, true, true, true, true, true, true, true, true, true, true, true, true, false, true, false, false] rfl rfl (any_of HT_.out (by kernel_rfl)) (fun _ _ _ h => h) (Or.inl ⟨by rfl, ?_⟩) ?_ ?_
                                rotate_left
                                ·intro w'
                                 go_simp
                                 with_reducible rfl
                                rotate_left
                                ·simp only [Act.put, List.setIfInBounds_toArray, List.set_cons_zero, List.set_cons_succ, i64_w, i32_w]
                                 rfl
                                refine take_ (i := 16) (N := some 94) (v := ?_) (a' := ?_) #[true, true, true, true, true, true, true, true, true, true, true, true, true, true, true, true, true, true, false, false] rfl rfl (take_ofW HT_.out HW_.out (by kernel_rfl)) (fun _ _ _ h => h) (Or.inl ⟨by rfl, ?_⟩) hHeld ?_ ?_
                                rotate_left
                                ·rintro w' ⟨s0, s1, s2, s3, s4, s5, s6, s7⟩
                                 go_simp
                                 with_reducible rfl
                                rotate_left
                                ·simp only [Act.put, List.setIfInBounds_toArray, List.set_cons_zero, List.set_cons_succ, i64_w, i32_w]
                                 rfl
                                refine one_ (i := 18) (N := some 96) #[true, true, true, true, true, true, true, true, true, true, true, true, true, true, true, true, true, true, true, false] rfl rfl (one_of HT_.out (by kernel_rfl)) (by decide) (fun K hK => ?_)
                                refine goes_ Try.func35 (by kernel_rfl) rfl #[.slice Ao15 t368.length co15, .int .i64 (rd ((rd_T57 l0 x3_1).f1) x6_3), .int .i64 (rd ((rd_T57 l0 x3_1).f2) x7_5), .int .i64 t371] (by rfl) rfl rfl (by (try simp only [List.map_toArray, List.map_cons, List.map_nil]); first | done | rfl | (simp only [List.length_drop, List.length_take]; rfl)) ?_
                                with_reducible refine (gantrylaw7_offset.calls kj29 _ _ t368 (rd ((rd_T57 l0 x3_1).f1) x6_3) (rd ((rd_T57 l0 x3_1).f2) x7_5) t371 false _ ?side1 ?side2 A41.out).mono ?_
                                (case side1 => repeat (first | exact (Kd.S_reads' HO_4.out).2.2 | (with_reducible refine Kd.C_alloc ?_ _) | (with_reducible refine Kd.C_drewN ?_ _) | (with_reducible refine Kd.C_drew ?_)))
                                (case side2 => exact (Kd.S_reads' HO_4.out).2.1)
                                rintro e w46 ⟨rfl, hb⟩
                                refine ⟨_, rfl, ?_⟩
                                have n0_ := Aside0.mk (Kd.S_below (by (with_reducible repeat (first | apply Kd.S_alloc | apply Kd.S_drewN | apply Kd.S_drew)); exact HO_4.out) hb)
                                have n1_ := Aside0.mk (below_step (by repeat (first | (with_reducible first | exact HB.out | apply below_alloc | apply pw_below_drewN | apply below_drew1) | exact HB.out)) hb)
                                clear HO_4
                                clear HB
                                have HO_4 := n0_
                                have HB := n1_
                                clear n0_ n1_
                                (try clear hb)
                                (try clear hb2)
                                (try clear hk)
                                (try clear hi)
                                refine hK.out _ _ ⟨((HB.out.cell (World.block_lt_of_cell? w _ hw379_0)).trans hw379_0), ((HB.out.cell (World.block_lt_of_cell? w _ hw379_1)).trans hw379_1), ((HB.out.cell (World.block_lt_of_cell? w _ hw379_2)).trans hw379_2), ((HB.out.cell (World.block_lt_of_cell? w _ hw380_0)).trans hw380_0), ((HB.out.cell (World.block_lt_of_cell? w _ hw381_0)).trans hw381_0), ((HB.out.cell (World.block_lt_of_cell? w _ hw381_1)).trans hw381_1), ((HB.out.cell (World.block_lt_of_cell? w _ hw381_2)).trans hw381_2), ((HB.out.cell (World.block_lt_of_cell? w _ hw382_0)).trans hw382_0)⟩ (fun hHeld => ?_)
                                clear hK K
                                refine norm_ (a' := ?_) ?_ ?_
                                rotate_left
                                ·show Act.put _ (some 96) _ = _
                                 simp only [Act.put, List.setIfInBounds_toArray, List.set_cons_zero, List.set_cons_succ, i64_w, i32_w]
                                 rfl
                                refine pure_ (i := 19) (N := some 97) (v := ?_) (a' := ?_) #[true, true, true, true, true, true, true, true, true, true, true, true, true, true, true, true, true, true, true, true] rfl rfl (any_of HT_.out (by kernel_rfl)) (fun _ _ _ h => h) (Or.inl ⟨by rfl, ?_⟩) ?_ ?_
                                rotate_left
                                ·intro w'
                                 go_simp
                                 with_reducible rfl
                                rotate_left
                                ·simp only [Act.put, List.setIfInBounds_toArray, List.set_cons_zero, List.set_cons_succ, i64_w, i32_w]
                                 rfl
                                refine done_ (done_of HT_.out (by kernel_rfl)) ?_
                                try go_wp2
                                go_ret
                                exact ⟨by first | rfl | (simp [errW_none, errW_some] <;> rfl) | (simp [*, errW_none, errW_some] <;> rfl), by repeat (first | (with_reducible first | exact HB.out | apply below_alloc | apply pw_below_drewN | apply below_drew1) | exact HB.out)⟩
                              ·rw [if_neg c40] at H
                               exact absurd H (by simp)
                             ·rw [if_neg c39] at H
                              exact absurd H (by simp)
                            ·rw [if_neg c38] at H
                             exact absurd H (by simp)
                           ·rw [if_neg c37] at H
                            exact absurd H (by simp)
                          ·rw [if_neg c36] at H
                           exact absurd H (by simp)
                         ·rw [if_neg c35] at H
                          exact absurd H (by simp)
                        ·replace c34 := Bool.eq_false_iff.mpr c34
                         subst c34
                         have H1 : (gantrylaw7_TypesExact.l1 kj29 l0 x3_1 t368 t371 (wrap64 (x6_3 + 1))) = some r := by rw [if_neg (show ¬ (false = true) by decide)] at H; exact H
                         clear H
                         have H := H1
                         clear H1
                         have H' := Aside0.mk H
                         clear H
                         go_wp2
                         go_roundg kj29
                         case measure => have := HK1.out; have := HJ1.out; have := HK3.out; have := HJ17.out; have := HK5.out; have := HJ29.out; omega
                         case rel => exact ⟨(wrap64 (x6_3 + 1)), (by first | rfl | (simp; done) | (simp [*]; done)), H', ⟨by have := HK1.out; have := HJ1.out; have := HK3.out; have := HJ17.out; have := HK5.out; have := HJ29.out; omega⟩, ⟨by (with_reducible repeat (first | apply Kd.S_alloc | apply Kd.S_drewN | apply Kd.S_drew)); exact HO_4.out⟩, ⟨by repeat (first | (with_reducible first | exact HB.out | apply below_alloc | apply pw_below_drewN | apply below_drew1) | exact HB.out)⟩⟩
                   ·replace c28 := Bool.eq_false_iff.mpr c28
                    subst c28
                    have H1 : (some false) = some r := by rw [if_neg (show ¬ (false = true) by decide)] at H; exact H
                    clear H
                    have H := H1
                    clear H1
                    obtain rfl := Option.some.inj H
                    have p375 : 0 ≤ (x3_1 : Int) := of_decide_eq_true (by first | (with_reducible assumption) | assumption)
                    have q375 : x3_1 < (l0.length : Int) := of_decide_eq_true (by first | (with_reducible assumption) | assumption)
                    obtain ⟨ad375, A375_0, c375_0, A375_1, c375_1, A375_2, c375_2, e375, hx375_0, hx375_1, hx375_2, hl375_0, hi375_0, hl375_1, hi375_1, hl375_2, hi375_2⟩ := at_T57 HR0.out x3_1 p375 q375
                    obtain rfl : ad365 = ad375 := (by injection e375)
                    replace hx375_0 := (HB.out.cell (World.block_lt_of_cell? w _ hx375_0)).trans hx375_0
                    replace hx375_1 := (HB.out.cell (World.block_lt_of_cell? w _ hx375_1)).trans hx375_1
                    replace hx375_2 := (HB.out.cell (World.block_lt_of_cell? w _ hx375_2)).trans hx375_2
                    have HR375_0 := Aside0.mk hi375_0
                    have HC375_0 := Aside0.mk hl375_0
                    clear hi375_0 hl375_0
                    have HR375_1 := Aside0.mk hi375_1
                    have HC375_1 := Aside0.mk hl375_1
                    clear hi375_1 hl375_1
                    have HR375_2 := Aside0.mk hi375_2
                    have HC375_2 := Aside0.mk hl375_2
                    clear hi375_2 hl375_2
                    replace p375 := eq_true p375
                    replace q375 := eq_true q375
                    have p376 : 0 ≤ (x6_3 : Int) := of_decide_eq_true (by first | (with_reducible assumption) | assumption)
                    have q376 : x6_3 < (((rd_T57 l0 x3_1).f1).length : Int) := of_decide_eq_true (by first | (with_reducible assumption) | assumption)
                    obtain ⟨ad376, e376, hx376_0⟩ := Kd.at_int HR375_1.out x6_3 p376 q376
                    cases e376
                    replace hx376_0 := (HB.out.cell (World.block_lt_of_cell? w _ hx376_0)).trans hx376_0
                    replace p376 := eq_true p376
                    replace q376 := eq_true q376
                    go_wp2_with (first | ((with_reducible refine gate_callee (f := 34) rfl ?_); refine goesL_ (some 62) rfl rfl Try.func34 (by kernel_rfl) rfl #[.slice Ao15 t368.length co15, .int .i64 (rd ((rd_T57 l0 x3_1).f1) x6_3), .int .i64 t371] rfl (by (try simp only [List.map_toArray, List.map_cons, List.map_nil]); first | done | rfl | (simp only [List.length_drop, List.length_take]; rfl)) ?_; (with_reducible refine (gantrylaw7_sizes.calls kj17 _ _ t368 (rd ((rd_T57 l0 x3_1).f1) x6_3) t371 false _ ?side1 ?side2 A27.out).mono ?_); (case side1 => repeat (first | exact (Kd.S_reads' HO_4.out).2.2 | (with_reducible refine Kd.C_alloc ?_ _) | (with_reducible refine Kd.C_drewN ?_ _) | (with_reducible refine Kd.C_drew ?_))); (case side2 => exact (Kd.S_reads' HO_4.out).2.1); rintro e w47 ⟨rfl, hb⟩; refine ⟨_, rfl, ?_⟩; have n0_ := Aside0.mk (Kd.S_below (by (with_reducible repeat (first | apply Kd.S_alloc | apply Kd.S_drewN | apply Kd.S_drew)); exact HO_4.out) hb); have n1_ := Aside0.mk (below_step (by repeat (first | (with_reducible first | exact HB.out | apply below_alloc | apply pw_below_drewN | apply below_drew1) | exact HB.out)) hb); clear HO_4; clear HB; have HO_4 := n0_; have HB := n1_; clear n0_ n1_; (try clear hb); (try clear hb2); (try clear hk); (try clear hi)))
                    go_ret
                    exact ⟨by first | rfl | (simp [errW_none, errW_some] <;> rfl) | (simp [*, errW_none, errW_some] <;> rfl), by repeat (first | (with_reducible first | exact HB.out | apply below_alloc | apply pw_below_drewN | apply below_drew1) | exact HB.out)⟩
                  ·rw [if_neg c26] at H
                   exact absurd H (by simp)
                 ·rw [if_neg c25] at H
                  exact absurd H (by simp)
                ·rw [if_neg c24] at H
                 exact absurd H (by simp)
               ·rw [if_neg c23] at H
                exact absurd H (by simp)
              ·replace c22 := Bool.eq_false_iff.mpr c22
               subst c22
               have H1 : (gantrylaw7_TypesExact.l3 kj17 l0 x3_1 t368 t371 0) = some r := by rw [if_neg (show ¬ (false = true) by decide)] at H; exact H
               clear H
               have H := H1
               clear H1
               have H' := Aside0.mk H
               clear H
               go_wp2
               go_loopg [8] kj17 (fun kq v8 w' => ∃ (x8_5 : Int), v8 = .int .i64 x8_5 ∧ Aside0 (gantrylaw7_TypesExact.l3 kq l0 x3_1 t368 t371 x8_5 = some r) ∧ Aside0 (kq ≤ kj17) ∧ Aside0 (Kd.S k124 124 w' w.heap.size (fun _ => True) (.slice Ao15 t368.length co15) t368) ∧ Aside0 (Below w.heap.size w w'))
               case atStart => exact ⟨(0), (by first | rfl | (simp; done) | (simp [*]; done)), H', ⟨Nat.le_refl _⟩, ⟨by (with_reducible repeat (first | apply Kd.S_alloc | apply Kd.S_drewN | apply Kd.S_drew)); exact HO_4.out⟩, ⟨by repeat (first | (with_reducible first | exact HB.out | apply below_alloc | apply pw_below_drewN | apply below_drew1) | exact HB.out)⟩⟩
               case round =>
                clear H'
                try clear c2
                try clear p2
                try clear c3
                try clear p3
                try clear q3
                try clear hx3
                try clear c4
                try clear p6
                try clear c22
                try clear c23
                try clear c24
                try clear c25
                try clear c26
                try clear c28
                try clear c34
                try clear c35
                try clear c36
                try clear c37
                try clear p37
                try clear q37
                try clear hx37
                try clear c38
                try clear p38
                try clear q38
                try clear hx38
                try clear c39
                try clear c40
                try clear c42
                try clear hx375_0
                try clear hx375_1
                try clear hx375_2
                try clear hx376_0
                try clear hx379_0
                try clear hx379_1
                try clear hx379_2
                try clear hx380_0
                try clear hx381_0
                try clear hx381_1
                try clear hx381_2
                try clear hx382_0
                try clear p375
                try clear p376
                try clear p379
                try clear p380
                try clear p381
                try clear p382
                try clear q375
                try clear q376
                try clear q379
                try clear q380
                try clear q381
                try clear q382
                obtain ⟨x8_5, rfl, HA, HK5, HO_4, HB⟩ := hrel
                cases gk with
                | zero => exact absurd HA.out (by simp [gantrylaw7_TypesExact.l3])
                | succ k5 =>
                 have H := HA.out
                 clear HA
                 simp only [gantrylaw7_TypesExact.l3] at H
                 have HC48 := Aside0.mk H
                 clear H
                 go_upto_region 21 with (fail)
                 go_cut [105] (fun v105 wc => ∃ (kq : Nat) (x105_47 : Bool), v105 = .bool x105_47 ∧ Aside0 (gantrylaw7_TypesExact.j7 kq l0 x3_1 t368 t371 x8_5 x105_47 = some r) ∧ Aside0 (kq ≤ k5) ∧ Aside0 (Kd.S k124 124 wc w.heap.size (fun _ => True) (.slice Ao15 t368.length co15) t368) ∧ Aside0 (Below w.heap.size w wc))
                 case first =>
                  have H := HC48.out
                  clear HC48
                  by_cases c49 : x8_5 < (t368.length : Int)
                  ·rw [if_pos c49] at H
                   have c49b0 : decide (x8_5 < (t368.length : Int)) = true := decide_eq_true c49
                   clear c49
                   (first | rw [c49b0] | (simp only [i64_w, i32_w]; rw [c49b0]) | skip)
                   have H' := Aside0.mk H
                   clear H
                   go_wp2
                   go_meet
                   case rel => exact ⟨_, (decide (x8_5 < 64)), (by first | rfl | (simp; done) | (simp [*]; done)), H', ⟨by have := HK1.out; have := HJ1.out; have := HK3.out; have := HJ17.out; have := HK5.out; first | omega | exact Nat.le_refl _⟩, ⟨by (with_reducible repeat (first | apply Kd.S_alloc | apply Kd.S_drewN | apply Kd.S_drew)); exact HO_4.out⟩, ⟨by repeat (first | (with_reducible first | exact HB.out | apply below_alloc | apply pw_below_drewN | apply below_drew1) | exact HB.out)⟩⟩
                  ·rw [if_neg c49] at H
                   have c49b0 : decide (x8_5 < (t368.length : Int)) = false := decide_eq_false c49
                   clear c49
                   (first | rw [c49b0] | (simp only [i64_w, i32_w]; rw [c49b0]) | skip)
                   have H' := Aside0.mk H
                   clear H
                   go_wp2
                   go_meet
                   case rel => exact ⟨_, (false), (by first | rfl | (simp; done) | (simp [*]; done)), H', ⟨by have := HK1.out; have := HJ1.out; have := HK3.out; have := HJ17.out; have := HK5.out; first | omega | exact Nat.le_refl _⟩, ⟨by (with_reducible repeat (first | apply Kd.S_alloc | apply Kd.S_drewN | apply Kd.S_drew)); exact HO_4.out⟩, ⟨by repeat (first | (with_reducible first | exact HB.out | apply below_alloc | apply pw_below_drewN | apply below_drew1) | exact HB.out)⟩⟩
                 case rest =>
                  clear HC48
                  try clear c2
                  try clear p2
                  try clear c3
                  try clear p3
                  try clear q3
                  try clear hx3
                  try clear c4
                  try clear p6
                  try clear c22
                  try clear c23
                  try clear c24
                  try clear c25
                  try clear c26
                  try clear c28
                  try clear c34
                  try clear c35
                  try clear c36
                  try clear c37
                  try clear p37
                  try clear q37
                  try clear hx37
                  try clear c38
                  try clear p38
                  try clear q38
                  try clear hx38
                  try clear c39
                  try clear c40
                  try clear c42
                  try clear c49
                  try clear c49b0
                  try clear hx375_0
                  try clear hx375_1
                  try clear hx375_2
                  try clear hx376_0
                  try clear hx379_0
                  try clear hx379_1
                  try clear hx379_2
                  try clear hx380_0
                  try clear hx381_0
                  try clear hx381_1
                  try clear hx381_2
                  try clear hx382_0
                  try clear p2
                  try clear p3
                  try clear p37
                  try clear p375
                  try clear p376
                  try clear p379
                  try clear p38
                  try clear p380
                  try clear p381
                  try clear p382
                  try clear p6
                  try clear q3
                  try clear q37
                  try clear q375
                  try clear q376
                  try clear q379
                  try clear q38
                  try clear q380
                  try clear q381
                  try clear q382
                  obtain ⟨kq, x105_47, rfl, HA, HJ47, HO_4, HB⟩ := hcut
                  cases kq with
                  | zero => exact absurd HA.out (by simp [gantrylaw7_TypesExact.j7])
                  | succ kj47 =>
                   have H := HA.out
                   clear HA
                   simp only [gantrylaw7_TypesExact.j7] at H
                   by_cases c50 : x105_47 = true
                   ·subst c50
                    have H1 : ((gantrylaw7_sizes.f kj47 t368 x8_5 t371).bind fun t384 => (if t384 = true then (gantrylaw7_TypesExact.l3 kj47 l0 x3_1 t368 t371 (wrap64 (x8_5 + 1))) else (some false))) = some r := by rw [if_pos rfl] at H; exact H
                    clear H
                    have H := H1
                    clear H1
                    replace H := Option.bind_eq_some_iff.mp H
                    obtain ⟨t384, A510, H⟩ := H
                    replace H : (if t384 = true then (gantrylaw7_TypesExact.l3 kj47 l0 x3_1 t368 t371 (wrap64 (x8_5 + 1))) else (some false)) = some r := H
                    have A51 := Aside0.mk A510
                    clear A510
                    by_cases c52 : t384 = true
                    ·subst c52
                     have H1 : (gantrylaw7_TypesExact.l3 kj47 l0 x3_1 t368 t371 (wrap64 (x8_5 + 1))) = some r := by rw [if_pos rfl] at H; exact H
                     clear H
                     have H := H1
                     clear H1
                     have H' := Aside0.mk H
                     clear H
                     go_wp2_with (first | ((with_reducible refine gate_callee (f := 34) rfl ?_); refine goesL_ (some 111) rfl rfl Try.func34 (by kernel_rfl) rfl #[.slice Ao15 t368.length co15, .int .i64 x8_5, .int .i64 t371] rfl (by (try simp only [List.map_toArray, List.map_cons, List.map_nil]); first | done | rfl | (simp only [List.length_drop, List.length_take]; rfl)) ?_; (with_reducible refine (gantrylaw7_sizes.calls kj47 _ _ t368 x8_5 t371 true _ ?side1 ?side2 A51.out).mono ?_); (case side1 => repeat (first | exact (Kd.S_reads' HO_4.out).2.2 | (with_reducible refine Kd.C_alloc ?_ _) | (with_reducible refine Kd.C_drewN ?_ _) | (with_reducible refine Kd.C_drew ?_))); (case side2 => exact (Kd.S_reads' HO_4.out).2.1); rintro e w53 ⟨rfl, hb⟩; refine ⟨_, rfl, ?_⟩; have n0_ := Aside0.mk (Kd.S_below (by (with_reducible repeat (first | apply Kd.S_alloc | apply Kd.S_drewN | apply Kd.S_drew)); exact HO_4.out) hb); have n1_ := Aside0.mk (below_step (by repeat (first | (with_reducible first | exact HB.out | apply below_alloc | apply pw_below_drewN | apply below_drew1) | exact HB.out)) hb); clear HO_4; clear HB; have HO_4 := n0_; have HB := n1_; clear n0_ n1_; (try clear hb); (try clear hb2); (try clear hk); (try clear hi)))
                     go_roundg kj47
                     case measure => have := HK1.out; have := HJ1.out; have := HK3.out; have := HJ17.out; have := HK5.out; have := HJ47.out; omega
                     case rel => exact ⟨(wrap64 (x8_5 + 1)), (by first | rfl | (simp; done) | (simp [*]; done)), H', ⟨by have := HK1.out; have := HJ1.out; have := HK3.out; have := HJ17.out; have := HK5.out; have := HJ47.out; omega⟩, ⟨by (with_reducible repeat (first | apply Kd.S_alloc | apply Kd.S_drewN | apply Kd.S_drew)); exact HO_4.out⟩, ⟨by repeat (first | (with_reducible first | exact HB.out | apply below_alloc | apply pw_below_drewN | apply below_drew1) | exact HB.out)⟩⟩
                    ·replace c52 := Bool.eq_false_iff.mpr c52
                     subst c52
                     have H1 : (some false) = some r := by rw [if_neg (show ¬ (false = true) by decide)] at H; exact H
                     clear H
                     have H := H1
                     clear H1
                     obtain rfl := Option.some.inj H
                     go_wp2_with (first | ((with_reducible refine gate_callee (f := 34) rfl ?_); refine goesL_ (some 111) rfl rfl Try.func34 (by kernel_rfl) rfl #[.slice Ao15 t368.length co15, .int .i64 x8_5, .int .i64 t371] rfl (by (try simp only [List.map_toArray, List.map_cons, List.map_nil]); first | done | rfl | (simp only [List.length_drop, List.length_take]; rfl)) ?_; (with_reducible refine (gantrylaw7_sizes.calls kj47 _ _ t368 x8_5 t371 false _ ?side1 ?side2 A51.out).mono ?_); (case side1 => repeat (first | exact (Kd.S_reads' HO_4.out).2.2 | (with_reducible refine Kd.C_alloc ?_ _) | (with_reducible refine Kd.C_drewN ?_ _) | (with_reducible refine Kd.C_drew ?_))); (case side2 => exact (Kd.S_reads' HO_4.out).2.1); rintro e w54 ⟨rfl, hb⟩; refine ⟨_, rfl, ?_⟩; have n0_ := Aside0.mk (Kd.S_below (by (with_reducible repeat (first | apply Kd.S_alloc | apply Kd.S_drewN | apply Kd.S_drew)); exact HO_4.out) hb); have n1_ := Aside0.mk (below_step (by repeat (first | (with_reducible first | exact HB.out | apply below_alloc | apply pw_below_drewN | apply below_drew1) | exact HB.out)) hb); clear HO_4; clear HB; have HO_4 := n0_; have HB := n1_; clear n0_ n1_; (try clear hb); (try clear hb2); (try clear hk); (try clear hi)))
                     go_ret
                     exact ⟨by first | rfl | (simp [errW_none, errW_some] <;> rfl) | (simp [*, errW_none, errW_some] <;> rfl), by repeat (first | (with_reducible first | exact HB.out | apply below_alloc | apply pw_below_drewN | apply below_drew1) | exact HB.out)⟩
                   ·replace c50 := Bool.eq_false_iff.mpr c50
                    subst c50
                    have H1 : (if 0 ≤ x3_1 then (if x3_1 < (l0.length : Int) then ((gantryref0_EqTypes.f kj47 t368 ((rd_T57 l0 x3_1).f0)).bind fun t386 => (if t386 = true then (gantrylaw7_TypesExact.l0 kj47 l0 (wrap64 (x3_1 + 1))) else (some false))) else (none)) else (none)) = some r := by rw [if_neg (show ¬ (false = true) by decide)] at H; exact H
                    clear H
                    have H := H1
                    clear H1
                    by_cases c55 : 0 ≤ x3_1
                    ·rw [if_pos c55] at H
                     have c55b0 : decide (0 ≤ x3_1) = true := decide_eq_true c55
                     clear c55
                     by_cases c56 : x3_1 < (l0.length : Int)
                     ·rw [if_pos c56] at H
                      have c56b0 : decide (x3_1 < (l0.length : Int)) = true := decide_eq_true c56
                      clear c56
                      replace H := Option.bind_eq_some_iff.mp H
                      obtain ⟨t386, A570, H⟩ := H
                      replace H : (if t386 = true then (gantrylaw7_TypesExact.l0 kj47 l0 (wrap64 (x3_1 + 1))) else (some false)) = some r := H
                      have A57 := Aside0.mk A570
                      clear A570
                      by_cases c58 : t386 = true
                      ·subst c58
                       have H1 : (gantrylaw7_TypesExact.l0 kj47 l0 (wrap64 (x3_1 + 1))) = some r := by rw [if_pos rfl] at H; exact H
                       clear H
                       have H := H1
                       clear H1
                       have H' := Aside0.mk H
                       clear H
                       have p385 : 0 ≤ (x3_1 : Int) := of_decide_eq_true (by first | (with_reducible assumption) | assumption)
                       have q385 : x3_1 < (l0.length : Int) := of_decide_eq_true (by first | (with_reducible assumption) | assumption)
                       obtain ⟨ad385, A385_0, c385_0, A385_1, c385_1, A385_2, c385_2, e385, hx385_0, hx385_1, hx385_2, hl385_0, hi385_0, hl385_1, hi385_1, hl385_2, hi385_2⟩ := at_T57 HR0.out x3_1 p385 q385
                       obtain rfl : ad365 = ad385 := (by injection e385)
                       replace hx385_0 := (HB.out.cell (World.block_lt_of_cell? w _ hx385_0)).trans hx385_0
                       replace hx385_1 := (HB.out.cell (World.block_lt_of_cell? w _ hx385_1)).trans hx385_1
                       replace hx385_2 := (HB.out.cell (World.block_lt_of_cell? w _ hx385_2)).trans hx385_2
                       have HR385_0 := Aside0.mk hi385_0
                       have HC385_0 := Aside0.mk hl385_0
                       clear hi385_0 hl385_0
                       have HR385_1 := Aside0.mk hi385_1
                       have HC385_1 := Aside0.mk hl385_1
                       clear hi385_1 hl385_1
                       have HR385_2 := Aside0.mk hi385_2
                       have HC385_2 := Aside0.mk hl385_2
                       clear hi385_2 hl385_2
                       replace p385 := eq_true p385
                       replace q385 := eq_true q385
                       go_wp2_with (first | ((with_reducible refine gate_callee (f := 36) rfl ?_); refine goesL_ (some 119) rfl rfl Try.func36 (by kernel_rfl) rfl #[.slice Ao15 t368.length co15, .slice A385_0 ((rd_T57 l0 x3_1).f0).length c385_0] rfl (by (try simp only [List.map_toArray, List.map_cons, List.map_nil]); first | done | rfl | (simp only [List.length_drop, List.length_take]; rfl)) ?_; (with_reducible refine (gantryref0_EqTypes.calls kj47 _ _ t368 _ _ ((rd_T57 l0 x3_1).f0) true _ ?side1 ?side2 ?side3 ?side4 A57.out).mono ?_); (case side1 => repeat (first | exact (Kd.S_reads' HO_4.out).2.2 | (with_reducible refine Kd.C_alloc ?_ _) | (with_reducible refine Kd.C_drewN ?_ _) | (with_reducible refine Kd.C_drew ?_))); (case side2 => exact (Kd.S_reads' HO_4.out).2.1); (case side3 => repeat (first | exact (Kd.C_below HR385_0.out HB.out) | (with_reducible refine Kd.C_alloc ?_ _) | (with_reducible refine Kd.C_drewN ?_ _) | (with_reducible refine Kd.C_drew ?_))); (case side4 => exact HC385_0.out); rintro e w59 ⟨rfl, hb⟩; refine ⟨_, rfl, ?_⟩; have n0_ := Aside0.mk (Kd.S_below (by (with_reducible repeat (first | apply Kd.S_alloc | apply Kd.S_drewN | apply Kd.S_drew)); exact HO_4.out) hb); have n1_ := Aside0.mk (below_step (by repeat (first | (with_reducible first | exact HB.out | apply below_alloc | apply pw_below_drewN | apply below_drew1) | exact HB.out)) hb); clear HO_4; clear HB; have HO_4 := n0_; have HB := n1_; clear n0_ n1_; (try clear hb); (try clear hb2); (try clear hk); (try clear hi)))
                       go_roundg kj47
                       case measure => have := HK1.out; have := HJ1.out; have := HK3.out; have := HJ17.out; have := HK5.out; have := HJ47.out; omega
                       case rel => exact ⟨(wrap64 (x3_1 + 1)), (by first | rfl | (simp; done) | (simp [*]; done)), H', ⟨by have := HK1.out; have := HJ1.out; have := HK3.out; have := HJ17.out; have := HK5.out; have := HJ47.out; omega⟩, ⟨by repeat (first | (with_reducible first | exact HB.out | apply below_alloc | apply pw_below_drewN | apply below_drew1) | exact HB.out)⟩⟩
                      ·replace c58 := Bool.eq_false_iff.mpr c58
                       subst c58
                       have H1 : (some false) = some r := by rw [if_neg (show ¬ (false = true) by decide)] at H; exact H
                       clear H
                       have H := H1
                       clear H1
                       obtain rfl := Option.some.inj H
                       have p385 : 0 ≤ (x3_1 : Int) := of_decide_eq_true (by first | (with_reducible assumption) | assumption)
                       have q385 : x3_1 < (l0.length : Int) := of_decide_eq_true (by first | (with_reducible assumption) | assumption)
                       obtain ⟨ad385, A385_0, c385_0, A385_1, c385_1, A385_2, c385_2, e385, hx385_0, hx385_1, hx385_2, hl385_0, hi385_0, hl385_1, hi385_1, hl385_2, hi385_2⟩ := at_T57 HR0.out x3_1 p385 q385
                       obtain rfl : ad365 = ad385 := (by injection e385)
                       replace hx385_0 := (HB.out.cell (World.block_lt_of_cell? w _ hx385_0)).trans hx385_0
                       replace hx385_1 := (HB.out.cell (World.block_lt_of_cell? w _ hx385_1)).trans hx385_1
                       replace hx385_2 := (HB.out.cell (World.block_lt_of_cell? w _ hx385_2)).trans hx385_2
                       have HR385_0 := Aside0.mk hi385_0
                       have HC385_0 := Aside0.mk hl385_0
                       clear hi385_0 hl385_0
                       have HR385_1 := Aside0.mk hi385_1
                       have HC385_1 := Aside0.mk hl385_1
                       clear hi385_1 hl385_1
                       have HR385_2 := Aside0.mk hi385_2
                       have HC385_2 := Aside0.mk hl385_2
                       clear hi385_2 hl385_2
                       replace p385 := eq_true p385
                       replace q385 := eq_true q385
                       go_wp2_with (first | ((with_reducible refine gate_callee (f := 36) rfl ?_); refine goesL_ (some 119) rfl rfl Try.func36 (by kernel_rfl) rfl #[.slice Ao15 t368.length co15, .slice A385_0 ((rd_T57 l0 x3_1).f0).length c385_0] rfl (by (try simp only [List.map_toArray, List.map_cons, List.map_nil]); first | done | rfl | (simp only [List.length_drop, List.length_take]; rfl)) ?_; (with_reducible refine (gantryref0_EqTypes.calls kj47 _ _ t368 _ _ ((rd_T57 l0 x3_1).f0) false _ ?side1 ?side2 ?side3 ?side4 A57.out).mono ?_); (case side1 => repeat (first | exact (Kd.S_reads' HO_4.out).2.2 | (with_reducible refine Kd.C_alloc ?_ _) | (with_reducible refine Kd.C_drewN ?_ _) | (with_reducible refine Kd.C_drew ?_))); (case side2 => exact (Kd.S_reads' HO_4.out).2.1); (case side3 => repeat (first | exact (Kd.C_below HR385_0.out HB.out) | (with_reducible refine Kd.C_alloc ?_ _) | (with_reducible refine Kd.C_drewN ?_ _) | (with_reducible refine Kd.C_drew ?_))); (case side4 => exact HC385_0.out); rintro e w60 ⟨rfl, hb⟩; refine ⟨_, rfl, ?_⟩; have n0_ := Aside0.mk (Kd.S_below (by (with_reducible repeat (first | apply Kd.S_alloc | apply Kd.S_drewN | apply Kd.S_drew)); exact HO_4.out) hb); have n1_ := Aside0.mk (below_step (by repeat (first | (with_reducible first | exact HB.out | apply below_alloc | apply pw_below_drewN | apply below_drew1) | exact HB.out)) hb); clear HO_4; clear HB; have HO_4 := n0_; have HB := n1_; clear n0_ n1_; (try clear hb); (try clear hb2); (try clear hk); (try clear hi)))
                       go_ret
                       exact ⟨by first | rfl | (simp [errW_none, errW_some] <;> rfl) | (simp [*, errW_none, errW_some] <;> rfl), by repeat (first | (with_reducible first | exact HB.out | apply below_alloc | apply pw_below_drewN | apply below_drew1) | exact HB.out)⟩
                     ·rw [if_neg c56] at H
                      exact absurd H (by simp)
                    ·rw [if_neg c55] at H
                     exact absurd H (by simp)
         ·rw [if_neg c13] at H
          have c13b0 : (t373 == t371) = false := beq_eq_false_iff_ne.mpr c13
          have c13b1 : (t373 != t371) = true := bne_iff_ne.mpr c13
          obtain rfl := Option.some.inj H
          have p365 : 0 ≤ (x3_1 : Int) := of_decide_eq_true (by first | (with_reducible assumption) | assumption)
          have q365 : x3_1 < (l0.length : Int) := of_decide_eq_true (by first | (with_reducible assumption) | assumption)
          obtain ⟨ad365, A365_0, c365_0, A365_1, c365_1, A365_2, c365_2, e365, hx365_0, hx365_1, hx365_2, hl365_0, hi365_0, hl365_1, hi365_1, hl365_2, hi365_2⟩ := at_T57 HR0.out x3_1 p365 q365
          cases e365
          replace hx365_0 := (HB.out.cell (World.block_lt_of_cell? w _ hx365_0)).trans hx365_0
          replace hx365_1 := (HB.out.cell (World.block_lt_of_cell? w _ hx365_1)).trans hx365_1
          replace hx365_2 := (HB.out.cell (World.block_lt_of_cell? w _ hx365_2)).trans hx365_2
          have HR365_0 := Aside0.mk hi365_0
          have HC365_0 := Aside0.mk hl365_0
          clear hi365_0 hl365_0
          have HR365_1 := Aside0.mk hi365_1
          have HC365_1 := Aside0.mk hl365_1
          clear hi365_1 hl365_1
          have HR365_2 := Aside0.mk hi365_2
          have HC365_2 := Aside0.mk hl365_2
          clear hi365_2 hl365_2
          replace p365 := eq_true p365
          replace q365 := eq_true q365
          go_wp2_with (first | ((with_reducible refine gate_callee (f := 24) rfl ?_); refine goesL_ (some 24) rfl rfl Try.func24 (by kernel_rfl) rfl #[.slice A365_0 ((rd_T57 l0 x3_1).f0).length c365_0] rfl (by (try simp only [List.map_toArray, List.map_cons, List.map_nil]); first | done | rfl | (simp only [List.length_drop, List.length_take]; rfl)) ?_; (with_reducible refine (gantrylaw7_Heavy.calls kj1 _ _ ((rd_T57 l0 x3_1).f0) false _ ?side1 ?side2 A7.out).mono ?_); (case side1 => repeat (first | exact (Kd.C_below HR365_0.out HB.out) | (with_reducible refine Kd.C_alloc ?_ _) | (with_reducible refine Kd.C_drewN ?_ _) | (with_reducible refine Kd.C_drew ?_))); (case side2 => exact HC365_0.out); rintro e w' ⟨rfl, ⟨nd, rfl⟩⟩; refine ⟨_, rfl, ?_⟩; have p367 : 0 ≤ (x3_1 : Int) := of_decide_eq_true (by first | (with_reducible assumption) | assumption); have q367 : x3_1 < (l0.length : Int) := of_decide_eq_true (by first | (with_reducible assumption) | assumption); obtain ⟨ad367, A367_0, c367_0, A367_1, c367_1, A367_2, c367_2, e367, hx367_0, hx367_1, hx367_2, hl367_0, hi367_0, hl367_1, hi367_1, hl367_2, hi367_2⟩ := at_T57 HR0.out x3_1 p367 q367; obtain rfl : ad365 = ad367 := (by injection e367); replace hx367_0 := (HB.out.cell (World.block_lt_of_cell? w _ hx367_0)).trans hx367_0; replace hx367_1 := (HB.out.cell (World.block_lt_of_cell? w _ hx367_1)).trans hx367_1; replace hx367_2 := (HB.out.cell (World.block_lt_of_cell? w _ hx367_2)).trans hx367_2; have HR367_0 := Aside0.mk hi367_0; have HC367_0 := Aside0.mk hl367_0; clear hi367_0 hl367_0; have HR367_1 := Aside0.mk hi367_1; have HC367_1 := Aside0.mk hl367_1; clear hi367_1 hl367_1; have HR367_2 := Aside0.mk hi367_2; have HC367_2 := Aside0.mk hl367_2; clear hi367_2 hl367_2; replace p367 := eq_true p367; replace q367 := eq_true q367; have ea_ := Option.some.inj (hx365_0.symm.trans hx367_0); injection ea_ with ea_ en_ ec_; subst ea_; subst ec_; clear en_; have ea_ := Option.some.inj (hx365_1.symm.trans hx367_1); injection ea_ with ea_ en_ ec_; subst ea_; subst ec_; clear en_; have ea_ := Option.some.inj (hx365_2.symm.trans hx367_2); injection ea_ with ea_ en_ ec_; subst ea_; subst ec_; clear en_) | ((with_reducible refine gate_callee (f := 27) rfl ?_); refine goesL_ (some 30) rfl rfl Try.func27 (by kernel_rfl) rfl #[.slice A365_0 ((rd_T57 l0 x3_1).f0).length c365_0] rfl (by (try simp only [List.map_toArray, List.map_cons, List.map_nil]); first | done | rfl | (simp only [List.length_drop, List.length_take]; rfl)) ?_; (with_reducible refine (gantryref0_CopyTypes.calls kj1 _ _ ((rd_T57 l0 x3_1).f0) t368 _ ?side1 ?side2 A9.out).mono ?_); (case side1 => repeat (first | exact (Kd.C_below HR367_0.out (by repeat (first | (with_reducible first | exact HB.out | apply below_alloc | apply pw_below_drewN | apply below_drew1) | exact HB.out))) | (with_reducible refine Kd.C_alloc ?_ _) | (with_reducible refine Kd.C_drewN ?_ _) | (with_reducible refine Kd.C_drew ?_))); (case side2 => exact HC367_0.out); rintro e w61 ⟨v369, rfl, ho0, hb⟩; refine ⟨_, rfl, ?_⟩; have n0_ := Aside0.mk (Kd.S_lower ho0 (below_size (by repeat (first | (with_reducible first | exact HB.out | apply below_alloc | apply pw_below_drewN | apply below_drew1) | exact HB.out)))); have n1_ := Aside0.mk (below_step (by repeat (first | (with_reducible first | exact HB.out | apply below_alloc | apply pw_below_drewN | apply below_drew1) | exact HB.out)) hb); clear HB; have HO370 := n0_; have HB := n1_; clear n0_ n1_; (try clear hb); (try clear hb2); (try clear hk); (try clear hi); (try clear ho0); obtain ⟨Ao62, co62, eo62⟩ := Kd.S_slice HO370.out; subst eo62) | ((with_reducible refine gate_callee (f := 33) rfl ?_); refine goesL_ (some 32) rfl rfl Try.func33 (by kernel_rfl) rfl #[.slice Ao62 t368.length co62] rfl (by (try simp only [List.map_toArray, List.map_cons, List.map_nil]); first | done | rfl | (simp only [List.length_drop, List.length_take]; rfl)) ?_; (with_reducible refine (gantryref7_Check.calls kj1 _ _ t368 t371 _ ?side1 ?side2 A10.out).mono ?_); (case side1 => repeat (first | exact (Kd.S_reads' HO370.out).2.2 | (with_reducible refine Kd.C_alloc ?_ _) | (with_reducible refine Kd.C_drewN ?_ _) | (with_reducible refine Kd.C_drew ?_))); (case side2 => exact (Kd.S_reads' HO370.out).2.1); rintro e w63 ⟨rfl, hb⟩; refine ⟨_, rfl, ?_⟩; have n0_ := Aside0.mk (Kd.S_below (by (with_reducible repeat (first | apply Kd.S_alloc | apply Kd.S_drewN | apply Kd.S_drew)); exact HO370.out) hb); have n1_ := Aside0.mk (below_step (by repeat (first | (with_reducible first | exact HB.out | apply below_alloc | apply pw_below_drewN | apply below_drew1) | exact HB.out)) hb); clear HO370; clear HB; have HO370 := n0_; have HB := n1_; clear n0_ n1_; (try clear hb); (try clear hb2); (try clear hk); (try clear hi)) | ((with_reducible refine gate_callee (f := 26) rfl ?_); refine goesL_ (some 34) rfl rfl Try.func26 (by kernel_rfl) rfl #[.slice Ao62 t368.length co62] rfl (by (try simp only [List.map_toArray, List.map_cons, List.map_nil]); first | done | rfl | (simp only [List.length_drop, List.length_take]; rfl)) ?_; (with_reducible refine (types_Check.calls _ _ t368 t372 _ ?side1 ?side2 A11.out).mono ?_); (case side1 => repeat (first | exact (Kd.S_reads' HO370.out).2.2 | (with_reducible refine Kd.C_alloc ?_ _) | (with_reducible refine Kd.C_drewN ?_ _) | (with_reducible refine Kd.C_drew ?_))); (case side2 => exact (Kd.S_reads' HO370.out).2.1); rintro e w64 ⟨rfl, hb⟩; refine ⟨_, rfl, ?_⟩; have n0_ := Aside0.mk (Kd.S_below (by (with_reducible repeat (first | apply Kd.S_alloc | apply Kd.S_drewN | apply Kd.S_drew)); exact HO370.out) hb); have n1_ := Aside0.mk (below_step (by repeat (first | (with_reducible first | exact HB.out | apply below_alloc | apply pw_below_drewN | apply below_drew1) | exact HB.out)) hb); clear HO370; clear HB; have HO370 := n0_; have HB := n1_; clear n0_ n1_; (try clear hb); (try clear hb2); (try clear hk); (try clear hi)) | ((with_reducible refine gate_callee (f := 25) rfl ?_); refine goesL_ (some 35) rfl rfl Try.func25 (by kernel_rfl) rfl #[.int .i64 t372] rfl (by (try simp only [List.map_toArray, List.map_cons, List.map_nil]); first | done | rfl | (simp only [List.length_drop, List.length_take]; rfl)) ?_; (with_reducible refine (gantrylaw7_num.calls t372 t373 _ A12.out).mono ?_); rintro e w' ⟨rfl, ⟨nd, rfl⟩⟩; refine ⟨_, rfl, ?_⟩))
          go_ret
          exact ⟨by first | rfl | (simp [errW_none, errW_some] <;> rfl) | (simp [*, errW_none, errW_some] <;> rfl), by repeat (first | (with_reducible first | exact HB.out | apply below_alloc | apply pw_below_drewN | apply below_drew1) | exact HB.out)⟩
       ·rw [if_neg c6] at H
        exact absurd H (by simp)
      ·rw [if_neg c5] at H
       exact absurd H (by simp)
     ·replace c4 := Bool.eq_false_iff.mpr c4
      subst c4
      have H1 : ((gantrylaw7_wakes.f).bind fun t364 => (some t364)) = some r := by rw [if_neg (show ¬ (false = true) by decide)] at H; exact H
      clear H
      have H := H1
      clear H1
      replace H := Option.bind_eq_some_iff.mp H
      obtain ⟨t364, A650, H⟩ := H
      replace H : (some t364) = some r := H
      have A65 := Aside0.mk A650
      clear A650
      obtain rfl := Option.some.inj H
      go_wp2_with (first | ((with_reducible refine gate_callee (f := 32) rfl ?_); refine goesL_ (some 121) rfl rfl Try.func32 (by kernel_rfl) rfl #[] rfl (by (try simp only [List.map_toArray, List.map_cons, List.map_nil]); first | done | rfl | (simp only [List.length_drop, List.length_take]; rfl)) ?_; (with_reducible refine (gantrylaw7_wakes.calls  t364 _ A65.out).mono ?_); rintro e w66 ⟨rfl, hb⟩; refine ⟨_, rfl, ?_⟩; have n0_ := Aside0.mk (below_step (by repeat (first | (with_reducible first | exact HB.out | apply below_alloc | apply pw_below_drewN | apply below_drew1) | exact HB.out)) hb); clear HB; have HB := n0_; clear n0_; (try clear hb); (try clear hb2); (try clear hk); (try clear hi)))
      go_ret
      exact ⟨by first | rfl | (simp [errW_none, errW_some] <;> rfl) | (simp [*, errW_none, errW_some] <;> rfl), by repeat (first | (with_reducible first | exact HB.out | apply below_alloc | apply pw_below_drewN | apply below_drew1) | exact HB.out)⟩

end Go.Proofs.Ytekoogedhmhpgaa.Q

