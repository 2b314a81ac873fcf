-- PRINTED by print.py (a twelfth state) out of the translation. Not trusted: Lean checks it.
import Derived.Test.YtekoogedhmhpgaaQx0E
import Derived.Test.YtekoogedhmhpgaaQx5E
import Derived.Test.YtekoogedhmhpgaaQx8E
import Derived.Test.YtekoogedhmhpgaaQx9E
import Derived.Test.YtekoogedhmhpgaaQGivenE
import Derived.Test.YtekoogedhmhpgaaLotsWE
namespace Go.Proofs.Ytekoogedhmhpgaa.Q
open Go.RowKit Go.Proofs.YtekoogedhmhpgaaW.PrintWords Go.Proofs.YtekoogedhmhpgaaW.PrintLast Go.Proofs.YtekoogedhmhpgaaW.PrintMore
attribute [local go_sem] max2_int min2_int max_two min_two max_three min_three max_four min_four   -- for this text's walks alone
set_option linter.unusedVariables false
set_option linter.unusedSimpArgs false

mutual
def gantrylaw7_sizes.j0 : Nat → List (S124) → Int → Int → Int → Int → Int → Int → Bool → Int → List Int → List Int → Int → Bool → Option (Bool)
 | 0, _, _, _, _, _, _, _, _, _, _, _, _, _ => none
 | k + 1, x0, x1, x2, x7, x8, x9, x10, x11, x12, x13, x14, x15, x55 => if x55 = true then (gantrylaw7_sizes.j1 k x0 x1 70 x7 x8 x9 x10 x11 x12 x13 x14 x15) else (gantrylaw7_sizes.j1 k x0 x1 x2 x7 x8 x9 x10 x11 x12 x13 x14 x15)
def gantrylaw7_sizes.j1 : Nat → List (S124) → Int → Int → Int → Int → Int → Int → Bool → Int → List Int → List Int → Int → Option (Bool)
 | 0, _, _, _, _, _, _, _, _, _, _, _, _ => none
 | k + 1, x0, x1, x2, x7, x8, x9, x10, x11, x12, x13, x14, x15 => if x2 = 0 then ((gantryref7_Lay.f k x0).bind fun bt327 => ((gantryref7_Words.f x0 x1).bind fun bt334 => ((gantrylaw7_num.f x8).bind fun t341 => (if t341 = 0 then ((gantrylaw7_num.f x10).bind fun t342 => (if t342 = 0 then ((gantrylaw7_num.f x12).bind fun t343 => (if t343 = 0 then (if 0 ≤ x1 then (if x1 < (bt327.1.length : Int) then (if x7 = (rd bt327.1 x1) then (if x1 < (bt327.2.1.length : Int) then (if x9 = (rd bt327.2.1 x1) then (gantrylaw7_sizes.j2 k x13 x14 x15 bt334.1 bt334.2.1 bt334.2.2 (x11 != bt334.2.2)) else (gantrylaw7_sizes.j2 k x13 x14 x15 bt334.1 bt334.2.1 bt334.2.2 true)) else (none)) else (gantrylaw7_sizes.j2 k x13 x14 x15 bt334.1 bt334.2.1 bt334.2.2 true)) else (none)) else (none)) else (gantrylaw7_sizes.j2 k x13 x14 x15 bt334.1 bt334.2.1 bt334.2.2 true))) else (gantrylaw7_sizes.j2 k x13 x14 x15 bt334.1 bt334.2.1 bt334.2.2 true))) else (gantrylaw7_sizes.j2 k x13 x14 x15 bt334.1 bt334.2.1 bt334.2.2 true))))) else ((gantrylaw7_num.f x8).bind fun t323 => (if t323 = x2 then ((gantrylaw7_num.f x10).bind fun t324 => (if t324 = x2 then ((gantrylaw7_num.f x12).bind fun t325 => (if t325 = x2 then ((gantrylaw7_num.f x15).bind fun t326 => (if t326 = x2 then (if x7 = 0 then (if x9 = 0 then (if x11 = true then (some false) else (some ((wrap64 ((x13.length : Int) + (x14.length : Int))) == 0))) else (some false)) else (some false)) else (some false))) else (some false))) else (some false))) else (some false)))
def gantrylaw7_sizes.j2 : Nat → List Int → List Int → Int → List Int → List Int → Bool → Bool → Option (Bool)
 | 0, _, _, _, _, _, _, _ => none
 | k + 1, x13, x14, x15, x19, x20, x21, x146 => if x146 = true then (some false) else (if x21 = true then ((gantrylaw7_num.f x15).bind fun t346 => (if t346 = 0 then ((gantryref0_EqNumbers.f k x13 x19).bind fun t347 => (if t347 = true then ((gantryref0_EqNumbers.f k x14 x20).bind fun t348 => (if t348 = true then ((gantrylaw0_Numbers.f k x13).bind fun _ => ((gantrylaw0_Numbers.f k x14).bind fun _ => (some true))) else ((gantrylaw0_Numbers.f k x13).bind fun _ => ((gantrylaw0_Numbers.f k x14).bind fun _ => (some false))))) else ((gantrylaw0_Numbers.f k x13).bind fun _ => ((gantrylaw0_Numbers.f k x14).bind fun _ => (some false))))) else ((gantrylaw0_Numbers.f k x13).bind fun _ => ((gantrylaw0_Numbers.f k x14).bind fun _ => (some false))))) else ((gantrylaw7_num.f x15).bind fun t349 => (if t349 = 70 then ((gantrylaw0_Numbers.f k x13).bind fun _ => ((gantrylaw0_Numbers.f k x14).bind fun _ => (some ((wrap64 ((x13.length : Int) + (x14.length : Int))) == 0)))) else ((gantrylaw0_Numbers.f k x13).bind fun _ => ((gantrylaw0_Numbers.f k x14).bind fun _ => (some false))))))
end
def gantrylaw7_sizes.f (k : Nat) (l0 : List (S124)) (a1 : Int) (a2 : Int) : Option (Bool) := (types_Size.f l0 a1).bind fun bt309 => ((types_Align.f l0 a1).bind fun bt311 => ((types_Value.f l0 a1).bind fun bt313 => ((types_Words.f l0 a1).bind fun bt315 => (if a2 = 0 then ((gantryref7_Is.f l0 a1).bind fun t322 => (gantrylaw7_sizes.j0 k l0 a1 a2 bt309.1 bt309.2 bt311.1 bt311.2 bt313.1 bt313.2 bt315.1 bt315.2.1 bt315.2.2 (!t322))) else (gantrylaw7_sizes.j0 k l0 a1 a2 bt309.1 bt309.2 bt311.1 bt311.2 bt313.1 bt313.2 bt315.1 bt315.2.1 bt315.2.2 false)))))
set_option maxHeartbeats 8000000 in
set_option maxRecDepth 100000 in
theorem gantrylaw7_sizes.calls (k : Nat) (A0 : Option Addr) (c0 : Nat) (l0 : List (S124)) (a1 : Int) (a2 : Int) (r : Bool) (w : World) (hr0 : Kd.C k124 w A0 l0.length l0) (hc0 : l0.length ≤ c0) (h : gantrylaw7_sizes.f k l0 a1 a2 = some r) :
  Calls Try.prog 34 #[.slice A0 l0.length c0, .int .i64 a1, .int .i64 a2] w fun e w' => e = .returned (.bool r) ∧ Below w.heap.size w w' := by
 have HR0 := Aside0.mk hr0
 have HC0 := Aside0.mk hc0
 clear hr0 hc0
 have HB := Aside0.mk (Below.refl w.heap.size w)
 have H : ((types_Size.f l0 a1).bind fun bt309 => ((types_Align.f l0 a1).bind fun bt311 => ((types_Value.f l0 a1).bind fun bt313 => ((types_Words.f l0 a1).bind fun bt315 => (if a2 = 0 then ((gantryref7_Is.f l0 a1).bind fun t322 => (gantrylaw7_sizes.j0 k l0 a1 a2 bt309.1 bt309.2 bt311.1 bt311.2 bt313.1 bt313.2 bt315.1 bt315.2.1 bt315.2.2 (!t322))) else (gantrylaw7_sizes.j0 k l0 a1 a2 bt309.1 bt309.2 bt311.1 bt311.2 bt313.1 bt313.2 bt315.1 bt315.2.1 bt315.2.2 false)))))) = some r := h
 clear h
 replace H := Option.bind_eq_some_iff.mp H
 obtain ⟨⟨t309, t310⟩, A40, H⟩ := H
 replace H : ((types_Align.f l0 a1).bind fun bt311 => ((types_Value.f l0 a1).bind fun bt313 => ((types_Words.f l0 a1).bind fun bt315 => (if a2 = 0 then ((gantryref7_Is.f l0 a1).bind fun t322 => (gantrylaw7_sizes.j0 k l0 a1 a2 t309 t310 bt311.1 bt311.2 bt313.1 bt313.2 bt315.1 bt315.2.1 bt315.2.2 (!t322))) else (gantrylaw7_sizes.j0 k l0 a1 a2 t309 t310 bt311.1 bt311.2 bt313.1 bt313.2 bt315.1 bt315.2.1 bt315.2.2 false))))) = some r := H
 have A4 := Aside0.mk A40
 clear A40
 replace H := Option.bind_eq_some_iff.mp H
 obtain ⟨⟨t311, t312⟩, A50, H⟩ := H
 replace H : ((types_Value.f l0 a1).bind fun bt313 => ((types_Words.f l0 a1).bind fun bt315 => (if a2 = 0 then ((gantryref7_Is.f l0 a1).bind fun t322 => (gantrylaw7_sizes.j0 k l0 a1 a2 t309 t310 t311 t312 bt313.1 bt313.2 bt315.1 bt315.2.1 bt315.2.2 (!t322))) else (gantrylaw7_sizes.j0 k l0 a1 a2 t309 t310 t311 t312 bt313.1 bt313.2 bt315.1 bt315.2.1 bt315.2.2 false)))) = some r := H
 have A5 := Aside0.mk A50
 clear A50
 replace H := Option.bind_eq_some_iff.mp H
 obtain ⟨⟨t313, t314⟩, A60, H⟩ := H
 replace H : ((types_Words.f l0 a1).bind fun bt315 => (if a2 = 0 then ((gantryref7_Is.f l0 a1).bind fun t322 => (gantrylaw7_sizes.j0 k l0 a1 a2 t309 t310 t311 t312 t313 t314 bt315.1 bt315.2.1 bt315.2.2 (!t322))) else (gantrylaw7_sizes.j0 k l0 a1 a2 t309 t310 t311 t312 t313 t314 bt315.1 bt315.2.1 bt315.2.2 false))) = some r := H
 have A6 := Aside0.mk A60
 clear A60
 replace H := Option.bind_eq_some_iff.mp H
 obtain ⟨⟨t315, t316, t317⟩, A70, H⟩ := H
 replace H : (if a2 = 0 then ((gantryref7_Is.f l0 a1).bind fun t322 => (gantrylaw7_sizes.j0 k l0 a1 a2 t309 t310 t311 t312 t313 t314 t315 t316 t317 (!t322))) else (gantrylaw7_sizes.j0 k l0 a1 a2 t309 t310 t311 t312 t313 t314 t315 t316 t317 false)) = some r := H
 have A7 := Aside0.mk A70
 clear A70
 have HC8 := Aside0.mk H
 clear H
 go_enter Try.func34, Try.ntmps34
 go_upto_region 5 with (first | ((with_reducible refine gate_callee (f := 28) rfl ?_); refine goesL_ (some 26) rfl rfl Try.func28 (by kernel_rfl) rfl #[.slice A0 l0.length c0, .int .i64 a1] rfl (by (try simp only [List.map_toArray, List.map_cons, List.map_nil]); first | done | rfl | (simp only [List.length_drop, List.length_take]; rfl)) ?_; (with_reducible refine (types_Size.calls _ _ l0 a1 t309 t310 _ ?side1 ?side2 A4.out).mono ?_); (case side1 => repeat (first | exact HR0.out | (with_reducible refine Kd.C_alloc ?_ _) | (with_reducible refine Kd.C_drewN ?_ _) | (with_reducible refine Kd.C_drew ?_))); (case side2 => exact HC0.out); rintro e w9 ⟨rfl, hb⟩; refine ⟨_, rfl, ?_⟩; have n0_ := Aside0.mk (below_step (by repeat (first | (with_reducible first | exact HB.out | apply below_alloc | apply pw_below_drewN | apply below_drew1) | exact HB.out)) hb); clear HB; have HB := n0_; clear n0_; (try clear hb); (try clear hb2); (try clear hk); (try clear hi)) | ((with_reducible refine gate_callee (f := 29) rfl ?_); refine goesL_ (some 32) rfl rfl Try.func29 (by kernel_rfl) rfl #[.slice A0 l0.length c0, .int .i64 a1] rfl (by (try simp only [List.map_toArray, List.map_cons, List.map_nil]); first | done | rfl | (simp only [List.length_drop, List.length_take]; rfl)) ?_; (with_reducible refine (types_Align.calls _ _ l0 a1 t311 t312 _ ?side1 ?side2 A5.out).mono ?_); (case side1 => repeat (first | exact (Kd.C_below HR0.out HB.out) | (with_reducible refine Kd.C_alloc ?_ _) | (with_reducible refine Kd.C_drewN ?_ _) | (with_reducible refine Kd.C_drew ?_))); (case side2 => exact HC0.out); rintro e w10 ⟨rfl, hb⟩; refine ⟨_, rfl, ?_⟩; have n0_ := Aside0.mk (below_step (by repeat (first | (with_reducible first | exact HB.out | apply below_alloc | apply pw_below_drewN | apply below_drew1) | exact HB.out)) hb); clear HB; have HB := n0_; clear n0_; (try clear hb); (try clear hb2); (try clear hk); (try clear hi)) | ((with_reducible refine gate_callee (f := 86) rfl ?_); refine goesL_ (some 38) rfl rfl Try.func86 (by kernel_rfl) rfl #[.slice A0 l0.length c0, .int .i64 a1] rfl (by (try simp only [List.map_toArray, List.map_cons, List.map_nil]); first | done | rfl | (simp only [List.length_drop, List.length_take]; rfl)) ?_; (with_reducible refine (types_Value.calls _ _ l0 a1 t313 t314 _ ?side1 ?side2 A6.out).mono ?_); (case side1 => repeat (first | exact (Kd.C_below HR0.out HB.out) | (with_reducible refine Kd.C_alloc ?_ _) | (with_reducible refine Kd.C_drewN ?_ _) | (with_reducible refine Kd.C_drew ?_))); (case side2 => exact HC0.out); rintro e w11 ⟨rfl, hb⟩; refine ⟨_, rfl, ?_⟩; have n0_ := Aside0.mk (below_step (by repeat (first | (with_reducible first | exact HB.out | apply below_alloc | apply pw_below_drewN | apply below_drew1) | exact HB.out)) hb); clear HB; have HB := n0_; clear n0_; (try clear hb); (try clear hb2); (try clear hk); (try clear hi)) | ((with_reducible refine gate_callee (f := 84) rfl ?_); refine goesL_ (some 44) rfl rfl Try.func84 (by kernel_rfl) rfl #[.slice A0 l0.length c0, .int .i64 a1] rfl (by (try simp only [List.map_toArray, List.map_cons, List.map_nil]); first | done | rfl | (simp only [List.length_drop, List.length_take]; rfl)) ?_; (with_reducible refine (types_Words.calls _ _ l0 a1 t315 t316 t317 _ ?side1 ?side2 A7.out).mono ?_); (case side1 => repeat (first | exact (Kd.C_below HR0.out HB.out) | (with_reducible refine Kd.C_alloc ?_ _) | (with_reducible refine Kd.C_drewN ?_ _) | (with_reducible refine Kd.C_drew ?_))); (case side2 => exact HC0.out); rintro e w12 ⟨v318, v320, rfl, ho0, ho1, hb⟩; refine ⟨_, rfl, ?_⟩; have n0_ := Aside0.mk (Kd.R_lower ho0 (below_size (by repeat (first | (with_reducible first | exact HB.out | apply below_alloc | apply pw_below_drewN | apply below_drew1) | exact HB.out)))); have n1_ := Aside0.mk (Kd.R_lower ho1 (below_size (by repeat (first | (with_reducible first | exact HB.out | apply below_alloc | apply pw_below_drewN | apply below_drew1) | exact HB.out)))); have n2_ := Aside0.mk (below_step (by repeat (first | (with_reducible first | exact HB.out | apply below_alloc | apply pw_below_drewN | apply below_drew1) | exact HB.out)) hb); clear HB; have HO319 := n0_; have HO321 := n1_; have HB := n2_; clear n0_ n1_ n2_; (try clear hb); (try clear hb2); (try clear hk); (try clear hi); (try clear ho0); (try clear ho1)))
 (try simp only [Act.put, List.setIfInBounds_toArray, List.set_cons_zero, List.set_cons_succ])
 go_cut [55] (fun v55 wc => ∃ (kq : Nat) (x55_7 : Bool), v55 = .bool x55_7 ∧ Aside0 (gantrylaw7_sizes.j0 kq l0 a1 a2 t309 t310 t311 t312 t313 t314 t315 t316 t317 x55_7 = some r) ∧ Aside0 (kq ≤ k) ∧ Aside0 (Kd.R (Kd.int .i64) 3 wc w.heap.size (fun k_ => some k_ ≠ (v320 : Value).ownBlock) v318 t315) ∧ Aside0 (Kd.R (Kd.int .i64) 3 wc w.heap.size (fun k_ => some k_ ≠ (v318 : Value).ownBlock) v320 t316) ∧ Aside0 (Below w.heap.size w wc))
 case first =>
  have H := HC8.out
  clear HC8
  by_cases c13 : a2 = 0
  ·rw [if_pos c13] at H
   have c13b0 : (a2 == 0) = true := beq_iff_eq.mpr c13
   have c13b1 : (a2 != 0) = false := bne_eq_false_iff_eq.mpr c13
   clear c13
   (first | rw [c13b0] | (simp only [i64_w, i32_w]; rw [c13b0]) | skip)
   replace H := Option.bind_eq_some_iff.mp H
   obtain ⟨t322, A140, H⟩ := H
   replace H : (gantrylaw7_sizes.j0 k l0 a1 a2 t309 t310 t311 t312 t313 t314 t315 t316 t317 (!t322)) = some r := H
   have A14 := Aside0.mk A140
   clear A140
   have H' := Aside0.mk H
   clear H
   go_wp2_with (first | (go_at_call 87; (with_reducible refine (gantryref7_Is.calls _ _ l0 a1 t322 _ ?side1 ?side2 A14.out).mono ?_); (case side1 => repeat (first | exact (Kd.C_below HR0.out HB.out) | (with_reducible refine Kd.C_alloc ?_ _) | (with_reducible refine Kd.C_drewN ?_ _) | (with_reducible refine Kd.C_drew ?_))); (case side2 => exact HC0.out); rintro e w' ⟨rfl, ⟨nd, rfl⟩⟩))
   go_meet
   case rel => exact ⟨_, (!t322), (by first | rfl | (simp; done) | (simp [*]; done)), H', ⟨by first | omega | exact Nat.le_refl _⟩, ⟨by (with_reducible repeat (first | apply Kd.R_alloc | apply Kd.R_drewN | apply Kd.R_drew)); exact HO319.out⟩, ⟨by (with_reducible repeat (first | apply Kd.R_alloc | apply Kd.R_drewN | apply Kd.R_drew)); exact HO321.out⟩, ⟨by repeat (first | (with_reducible first | exact HB.out | apply below_alloc | apply pw_below_drewN | apply below_drew1) | exact HB.out)⟩⟩
  ·rw [if_neg c13] at H
   have c13b0 : (a2 == 0) = false := beq_eq_false_iff_ne.mpr c13
   have c13b1 : (a2 != 0) = true := bne_iff_ne.mpr c13
   (first | rw [c13b0] | (simp only [i64_w, i32_w]; rw [c13b0]) | skip)
   have H' := Aside0.mk H
   clear H
   go_wp2
   go_meet
   case rel => exact ⟨_, (false), (by first | rfl | (simp; done) | (simp [*]; done)), H', ⟨by first | omega | exact Nat.le_refl _⟩, ⟨by (with_reducible repeat (first | apply Kd.R_alloc | apply Kd.R_drewN | apply Kd.R_drew)); exact HO319.out⟩, ⟨by (with_reducible repeat (first | apply Kd.R_alloc | apply Kd.R_drewN | apply Kd.R_drew)); exact HO321.out⟩, ⟨by repeat (first | (with_reducible first | exact HB.out | apply below_alloc | apply pw_below_drewN | apply below_drew1) | exact HB.out)⟩⟩
 case rest =>
  clear HC8
  try clear c1
  try clear c2
  try clear p2
  try clear c3
  try clear c8
  try clear c13
  try clear c13b0
  try clear c13b1
  obtain ⟨kq, x55_7, rfl, HA, HJ7, HO_13, HO_14, HB⟩ := hcut
  cases kq with
  | zero => exact absurd HA.out (by simp [gantrylaw7_sizes.j0])
  | succ kj7 =>
   have H := HA.out
   clear HA
   simp only [gantrylaw7_sizes.j0] at H
   have HC15 := Aside0.mk H
   clear H
   go_upto_if 55 with (fail)
   go_cut [2] (fun v2 wc => ∃ (kq : Nat) (x2_14 : Int), v2 = .int .i64 x2_14 ∧ Aside0 (gantrylaw7_sizes.j1 kq l0 a1 x2_14 t309 t310 t311 t312 t313 t314 t315 t316 t317 = some r) ∧ Aside0 (kq ≤ kj7) ∧ Aside0 (Kd.R (Kd.int .i64) 3 wc w.heap.size (fun k_ => some k_ ≠ (v320 : Value).ownBlock) v318 t315) ∧ Aside0 (Kd.R (Kd.int .i64) 3 wc w.heap.size (fun k_ => some k_ ≠ (v318 : Value).ownBlock) v320 t316) ∧ Aside0 (Below w.heap.size w wc))
   case first =>
    have H := HC15.out
    clear HC15
    by_cases c16 : x55_7 = true
    ·subst c16
     have H1 : (gantrylaw7_sizes.j1 kj7 l0 a1 70 t309 t310 t311 t312 t313 t314 t315 t316 t317) = some r := by rw [if_pos rfl] at H; exact H
     clear H
     have H := H1
     clear H1
     have H' := Aside0.mk H
     clear H
     go_wp2
     go_meet
     case rel => exact ⟨_, (70), (by first | rfl | (simp; done) | (simp [*]; done)), H', ⟨by have := HJ7.out; first | omega | exact Nat.le_refl _⟩, ⟨by (with_reducible repeat (first | apply Kd.R_alloc | apply Kd.R_drewN | apply Kd.R_drew)); exact HO_13.out⟩, ⟨by (with_reducible repeat (first | apply Kd.R_alloc | apply Kd.R_drewN | apply Kd.R_drew)); exact HO_14.out⟩, ⟨by repeat (first | (with_reducible first | exact HB.out | apply below_alloc | apply pw_below_drewN | apply below_drew1) | exact HB.out)⟩⟩
    ·replace c16 := Bool.eq_false_iff.mpr c16
     subst c16
     have H1 : (gantrylaw7_sizes.j1 kj7 l0 a1 a2 t309 t310 t311 t312 t313 t314 t315 t316 t317) = some r := by rw [if_neg (show ¬ (false = true) by decide)] at H; exact H
     clear H
     have H := H1
     clear H1
     have H' := Aside0.mk H
     clear H
     go_wp2
     go_meet
     case rel => exact ⟨_, (a2), (by first | rfl | (simp; done) | (simp [*]; done)), H', ⟨by have := HJ7.out; first | omega | exact Nat.le_refl _⟩, ⟨by (with_reducible repeat (first | apply Kd.R_alloc | apply Kd.R_drewN | apply Kd.R_drew)); exact HO_13.out⟩, ⟨by (with_reducible repeat (first | apply Kd.R_alloc | apply Kd.R_drewN | apply Kd.R_drew)); exact HO_14.out⟩, ⟨by repeat (first | (with_reducible first | exact HB.out | apply below_alloc | apply pw_below_drewN | apply below_drew1) | exact HB.out)⟩⟩
   case rest =>
    clear HC15
    try clear c1
    try clear c2
    try clear p2
    try clear c3
    try clear c8
    try clear c13
    try clear c13b0
    try clear c13b1
    try clear c16
    try clear p2
    obtain ⟨kq, x2_14, rfl, HA, HJ14, HO_13, HO_14, HB⟩ := hcut
    cases kq with
    | zero => exact absurd HA.out (by simp [gantrylaw7_sizes.j1])
    | succ kj14 =>
     have H := HA.out
     clear HA
     simp only [gantrylaw7_sizes.j1] at H
     by_cases c17 : x2_14 = 0
     ·rw [if_pos c17] at H
      have c17b0 : (x2_14 == 0) = true := beq_iff_eq.mpr c17
      have c17b1 : (x2_14 != 0) = false := bne_eq_false_iff_eq.mpr c17
      clear c17
      replace H := Option.bind_eq_some_iff.mp H
      obtain ⟨⟨t327, t328, t329⟩, A180, H⟩ := H
      replace H : ((gantryref7_Words.f l0 a1).bind fun bt334 => ((gantrylaw7_num.f t310).bind fun t341 => (if t341 = 0 then ((gantrylaw7_num.f t312).bind fun t342 => (if t342 = 0 then ((gantrylaw7_num.f t314).bind fun t343 => (if t343 = 0 then (if 0 ≤ a1 then (if a1 < (t327.length : Int) then (if t309 = (rd t327 a1) then (if a1 < (t328.length : Int) then (if t311 = (rd t328 a1) then (gantrylaw7_sizes.j2 kj14 t315 t316 t317 bt334.1 bt334.2.1 bt334.2.2 (t313 != bt334.2.2)) else (gantrylaw7_sizes.j2 kj14 t315 t316 t317 bt334.1 bt334.2.1 bt334.2.2 true)) else (none)) else (gantrylaw7_sizes.j2 kj14 t315 t316 t317 bt334.1 bt334.2.1 bt334.2.2 true)) else (none)) else (none)) else (gantrylaw7_sizes.j2 kj14 t315 t316 t317 bt334.1 bt334.2.1 bt334.2.2 true))) else (gantrylaw7_sizes.j2 kj14 t315 t316 t317 bt334.1 bt334.2.1 bt334.2.2 true))) else (gantrylaw7_sizes.j2 kj14 t315 t316 t317 bt334.1 bt334.2.1 bt334.2.2 true)))) = some r := H
      have A18 := Aside0.mk A180
      clear A180
      replace H := Option.bind_eq_some_iff.mp H
      obtain ⟨⟨t334, t335, t336⟩, A190, H⟩ := H
      replace H : ((gantrylaw7_num.f t310).bind fun t341 => (if t341 = 0 then ((gantrylaw7_num.f t312).bind fun t342 => (if t342 = 0 then ((gantrylaw7_num.f t314).bind fun t343 => (if t343 = 0 then (if 0 ≤ a1 then (if a1 < (t327.length : Int) then (if t309 = (rd t327 a1) then (if a1 < (t328.length : Int) then (if t311 = (rd t328 a1) then (gantrylaw7_sizes.j2 kj14 t315 t316 t317 t334 t335 t336 (t313 != t336)) else (gantrylaw7_sizes.j2 kj14 t315 t316 t317 t334 t335 t336 true)) else (none)) else (gantrylaw7_sizes.j2 kj14 t315 t316 t317 t334 t335 t336 true)) else (none)) else (none)) else (gantrylaw7_sizes.j2 kj14 t315 t316 t317 t334 t335 t336 true))) else (gantrylaw7_sizes.j2 kj14 t315 t316 t317 t334 t335 t336 true))) else (gantrylaw7_sizes.j2 kj14 t315 t316 t317 t334 t335 t336 true))) = some r := H
      have A19 := Aside0.mk A190
      clear A190
      have HC20 := Aside0.mk H
      clear H
      go_upto_region 11 with (first | ((with_reducible refine gate_callee (f := 85) rfl ?_); refine goesL_ (some 102) rfl rfl Try.func85 (by kernel_rfl) rfl #[.slice A0 l0.length c0] rfl (by (try simp only [List.map_toArray, List.map_cons, List.map_nil]); first | done | rfl | (simp only [List.length_drop, List.length_take]; rfl)) ?_; (with_reducible refine (gantryref7_Lay.calls kj14 _ _ l0 t327 t328 t329 _ ?side1 ?side2 A18.out).mono ?_); (case side1 => repeat (first | exact (Kd.C_below HR0.out HB.out) | (with_reducible refine Kd.C_alloc ?_ _) | (with_reducible refine Kd.C_drewN ?_ _) | (with_reducible refine Kd.C_drew ?_))); (case side2 => exact HC0.out); rintro e w21 ⟨v330, v332, rfl, ho0, ho1, hb⟩; refine ⟨_, rfl, ?_⟩; have n0_ := Aside0.mk (Kd.R_mono (Kd.R_told (Kd.R_told (Kd.R_old (by (with_reducible repeat (first | apply Kd.R_alloc | apply Kd.R_drewN | apply Kd.R_drew)); exact HO_13.out) hb) (Kd.R_base ho0)) (Kd.R_base ho1)) (fun _ h_ => h_.1)); have n1_ := Aside0.mk (Kd.R_mono (Kd.R_told (Kd.R_told (Kd.R_old (by (with_reducible repeat (first | apply Kd.R_alloc | apply Kd.R_drewN | apply Kd.R_drew)); exact HO_14.out) hb) (Kd.R_base ho0)) (Kd.R_base ho1)) (fun _ h_ => h_.1)); have n2_ := Aside0.mk (Kd.R_lower (Kd.R_new' (Kd.R_new' ho0 (Kd.R_lt (by (with_reducible repeat (first | apply Kd.R_alloc | apply Kd.R_drewN | apply Kd.R_drew)); exact HO_13.out))) (Kd.R_lt (by (with_reducible repeat (first | apply Kd.R_alloc | apply Kd.R_drewN | apply Kd.R_drew)); exact HO_14.out))) (below_size (by repeat (first | (with_reducible first | exact HB.out | apply below_alloc | apply pw_below_drewN | apply below_drew1) | exact HB.out)))); have n3_ := Aside0.mk (Kd.R_lower (Kd.R_new' (Kd.R_new' ho1 (Kd.R_lt (by (with_reducible repeat (first | apply Kd.R_alloc | apply Kd.R_drewN | apply Kd.R_drew)); exact HO_13.out))) (Kd.R_lt (by (with_reducible repeat (first | apply Kd.R_alloc | apply Kd.R_drewN | apply Kd.R_drew)); exact HO_14.out))) (below_size (by repeat (first | (with_reducible first | exact HB.out | apply below_alloc | apply pw_below_drewN | apply below_drew1) | exact HB.out)))); have n4_ := Aside0.mk (below_step (by repeat (first | (with_reducible first | exact HB.out | apply below_alloc | apply pw_below_drewN | apply below_drew1) | exact HB.out)) hb); clear HO_13; clear HO_14; clear HB; have HO_13 := n0_; have HO_14 := n1_; have HO331 := n2_; have HO333 := n3_; have HB := n4_; clear n0_ n1_ n2_ n3_ n4_; (try clear hb); (try clear hb2); (try clear hk); (try clear hi); (try clear ho0); (try clear ho1)) | ((with_reducible refine gate_callee (f := 88) rfl ?_); refine goesL_ (some 109) rfl rfl Try.func88 (by kernel_rfl) rfl #[.slice A0 l0.length c0, .int .i64 a1] rfl (by (try simp only [List.map_toArray, List.map_cons, List.map_nil]); first | done | rfl | (simp only [List.length_drop, List.length_take]; rfl)) ?_; (with_reducible refine (gantryref7_Words.calls _ _ l0 a1 t334 t335 t336 _ ?side1 ?side2 A19.out).mono ?_); (case side1 => repeat (first | exact (Kd.C_below HR0.out HB.out) | (with_reducible refine Kd.C_alloc ?_ _) | (with_reducible refine Kd.C_drewN ?_ _) | (with_reducible refine Kd.C_drew ?_))); (case side2 => exact HC0.out); rintro e w22 ⟨v337, v339, rfl, ho0, ho1, hb⟩; refine ⟨_, rfl, ?_⟩; have n0_ := Aside0.mk (Kd.R_mono (Kd.R_told (Kd.R_told (Kd.R_old (by (with_reducible repeat (first | apply Kd.R_alloc | apply Kd.R_drewN | apply Kd.R_drew)); exact HO_13.out) hb) (Kd.R_base ho0)) (Kd.R_base ho1)) (fun _ h_ => h_.1)); have n1_ := Aside0.mk (Kd.R_mono (Kd.R_told (Kd.R_told (Kd.R_old (by (with_reducible repeat (first | apply Kd.R_alloc | apply Kd.R_drewN | apply Kd.R_drew)); exact HO_14.out) hb) (Kd.R_base ho0)) (Kd.R_base ho1)) (fun _ h_ => h_.1)); have n2_ := Aside0.mk (Kd.R_mono (Kd.R_told (Kd.R_told (Kd.R_old (by (with_reducible repeat (first | apply Kd.R_alloc | apply Kd.R_drewN | apply Kd.R_drew)); exact HO331.out) hb) (Kd.R_base ho0)) (Kd.R_base ho1)) (fun _ h_ => h_.1)); have n3_ := Aside0.mk (Kd.R_mono (Kd.R_told (Kd.R_told (Kd.R_old (by (with_reducible repeat (first | apply Kd.R_alloc | apply Kd.R_drewN | apply Kd.R_drew)); exact HO333.out) hb) (Kd.R_base ho0)) (Kd.R_base ho1)) (fun _ h_ => h_.1)); have n4_ := Aside0.mk (Kd.R_lower (Kd.R_new' (Kd.R_new' (Kd.R_new' (Kd.R_new' ho0 (Kd.R_lt (by (with_reducible repeat (first | apply Kd.R_alloc | apply Kd.R_drewN | apply Kd.R_drew)); exact HO_13.out))) (Kd.R_lt (by (with_reducible repeat (first | apply Kd.R_alloc | apply Kd.R_drewN | apply Kd.R_drew)); exact HO_14.out))) (Kd.R_lt (by (with_reducible repeat (first | apply Kd.R_alloc | apply Kd.R_drewN | apply Kd.R_drew)); exact HO331.out))) (Kd.R_lt (by (with_reducible repeat (first | apply Kd.R_alloc | apply Kd.R_drewN | apply Kd.R_drew)); exact HO333.out))) (below_size (by repeat (first | (with_reducible first | exact HB.out | apply below_alloc | apply pw_below_drewN | apply below_drew1) | exact HB.out)))); have n5_ := Aside0.mk (Kd.R_lower (Kd.R_new' (Kd.R_new' (Kd.R_new' (Kd.R_new' ho1 (Kd.R_lt (by (with_reducible repeat (first | apply Kd.R_alloc | apply Kd.R_drewN | apply Kd.R_drew)); exact HO_13.out))) (Kd.R_lt (by (with_reducible repeat (first | apply Kd.R_alloc | apply Kd.R_drewN | apply Kd.R_drew)); exact HO_14.out))) (Kd.R_lt (by (with_reducible repeat (first | apply Kd.R_alloc | apply Kd.R_drewN | apply Kd.R_drew)); exact HO331.out))) (Kd.R_lt (by (with_reducible repeat (first | apply Kd.R_alloc | apply Kd.R_drewN | apply Kd.R_drew)); exact HO333.out))) (below_size (by repeat (first | (with_reducible first | exact HB.out | apply below_alloc | apply pw_below_drewN | apply below_drew1) | exact HB.out)))); have n6_ := Aside0.mk (below_step (by repeat (first | (with_reducible first | exact HB.out | apply below_alloc | apply pw_below_drewN | apply below_drew1) | exact HB.out)) hb); clear HO_13; clear HO_14; clear HO331; clear HO333; clear HB; have HO_13 := n0_; have HO_14 := n1_; have HO331 := n2_; have HO333 := n3_; have HO338 := n4_; have HO340 := n5_; have HB := n6_; clear n0_ n1_ n2_ n3_ n4_ n5_ n6_; (try clear hb); (try clear hb2); (try clear hk); (try clear hi); (try clear ho0); (try clear ho1)))
      (try simp only [Act.put, List.setIfInBounds_toArray, List.set_cons_zero, List.set_cons_succ])
      go_cut [146] (fun v146 wc => ∃ (kq : Nat) (x146_19 : Bool), v146 = .bool x146_19 ∧ Aside0 (gantrylaw7_sizes.j2 kq t315 t316 t317 t334 t335 t336 x146_19 = some r) ∧ Aside0 (kq ≤ kj14) ∧ Aside0 (Kd.R (Kd.int .i64) 3 wc w.heap.size (fun k_ => some k_ ≠ (v320 : Value).ownBlock ∧ some k_ ≠ (v337 : Value).ownBlock ∧ some k_ ≠ (v339 : Value).ownBlock) v318 t315) ∧ Aside0 (Kd.R (Kd.int .i64) 3 wc w.heap.size (fun k_ => some k_ ≠ (v318 : Value).ownBlock ∧ some k_ ≠ (v337 : Value).ownBlock ∧ some k_ ≠ (v339 : Value).ownBlock) v320 t316) ∧ Aside0 (Kd.R (Kd.int .i64) 3 wc w.heap.size (fun k_ => some k_ ≠ (v318 : Value).ownBlock ∧ some k_ ≠ (v320 : Value).ownBlock ∧ some k_ ≠ (v339 : Value).ownBlock) v337 t334) ∧ Aside0 (Kd.R (Kd.int .i64) 3 wc w.heap.size (fun k_ => some k_ ≠ (v318 : Value).ownBlock ∧ some k_ ≠ (v320 : Value).ownBlock ∧ some k_ ≠ (v337 : Value).ownBlock) v339 t335) ∧ Aside0 (Below w.heap.size w wc))
      case first =>
       have H := HC20.out
       clear HC20
       replace H := Option.bind_eq_some_iff.mp H
       obtain ⟨t341, A230, H⟩ := H
       replace H : (if t341 = 0 then ((gantrylaw7_num.f t312).bind fun t342 => (if t342 = 0 then ((gantrylaw7_num.f t314).bind fun t343 => (if t343 = 0 then (if 0 ≤ a1 then (if a1 < (t327.length : Int) then (if t309 = (rd t327 a1) then (if a1 < (t328.length : Int) then (if t311 = (rd t328 a1) then (gantrylaw7_sizes.j2 kj14 t315 t316 t317 t334 t335 t336 (t313 != t336)) else (gantrylaw7_sizes.j2 kj14 t315 t316 t317 t334 t335 t336 true)) else (none)) else (gantrylaw7_sizes.j2 kj14 t315 t316 t317 t334 t335 t336 true)) else (none)) else (none)) else (gantrylaw7_sizes.j2 kj14 t315 t316 t317 t334 t335 t336 true))) else (gantrylaw7_sizes.j2 kj14 t315 t316 t317 t334 t335 t336 true))) else (gantrylaw7_sizes.j2 kj14 t315 t316 t317 t334 t335 t336 true)) = some r := H
       have A23 := Aside0.mk A230
       clear A230
       by_cases c24 : t341 = 0
       ·rw [if_pos c24] at H
        have c24b0 : (t341 == 0) = true := beq_iff_eq.mpr c24
        have c24b1 : (t341 != 0) = false := bne_eq_false_iff_eq.mpr c24
        clear c24
        (first | rw [c24b0] | (simp only [i64_w, i32_w]; rw [c24b0]) | skip)
        replace H := Option.bind_eq_some_iff.mp H
        obtain ⟨t342, A250, H⟩ := H
        replace H : (if t342 = 0 then ((gantrylaw7_num.f t314).bind fun t343 => (if t343 = 0 then (if 0 ≤ a1 then (if a1 < (t327.length : Int) then (if t309 = (rd t327 a1) then (if a1 < (t328.length : Int) then (if t311 = (rd t328 a1) then (gantrylaw7_sizes.j2 kj14 t315 t316 t317 t334 t335 t336 (t313 != t336)) else (gantrylaw7_sizes.j2 kj14 t315 t316 t317 t334 t335 t336 true)) else (none)) else (gantrylaw7_sizes.j2 kj14 t315 t316 t317 t334 t335 t336 true)) else (none)) else (none)) else (gantrylaw7_sizes.j2 kj14 t315 t316 t317 t334 t335 t336 true))) else (gantrylaw7_sizes.j2 kj14 t315 t316 t317 t334 t335 t336 true)) = some r := H
        have A25 := Aside0.mk A250
        clear A250
        by_cases c26 : t342 = 0
        ·rw [if_pos c26] at H
         have c26b0 : (t342 == 0) = true := beq_iff_eq.mpr c26
         have c26b1 : (t342 != 0) = false := bne_eq_false_iff_eq.mpr c26
         clear c26
         replace H := Option.bind_eq_some_iff.mp H
         obtain ⟨t343, A270, H⟩ := H
         replace H : (if t343 = 0 then (if 0 ≤ a1 then (if a1 < (t327.length : Int) then (if t309 = (rd t327 a1) then (if a1 < (t328.length : Int) then (if t311 = (rd t328 a1) then (gantrylaw7_sizes.j2 kj14 t315 t316 t317 t334 t335 t336 (t313 != t336)) else (gantrylaw7_sizes.j2 kj14 t315 t316 t317 t334 t335 t336 true)) else (none)) else (gantrylaw7_sizes.j2 kj14 t315 t316 t317 t334 t335 t336 true)) else (none)) else (none)) else (gantrylaw7_sizes.j2 kj14 t315 t316 t317 t334 t335 t336 true)) = some r := H
         have A27 := Aside0.mk A270
         clear A270
         by_cases c28 : t343 = 0
         ·rw [if_pos c28] at H
          have c28b0 : (t343 == 0) = true := beq_iff_eq.mpr c28
          have c28b1 : (t343 != 0) = false := bne_eq_false_iff_eq.mpr c28
          clear c28
          by_cases c29 : 0 ≤ a1
          ·rw [if_pos c29] at H
           have c29b0 : decide (0 ≤ a1) = true := decide_eq_true c29
           clear c29
           by_cases c30 : a1 < (t327.length : Int)
           ·rw [if_pos c30] at H
            have c30b0 : decide (a1 < (t327.length : Int)) = true := decide_eq_true c30
            clear c30
            by_cases c31 : t309 = (rd t327 a1)
            ·rw [if_pos c31] at H
             have c31b0 : (t309 == (rd t327 a1)) = true := beq_iff_eq.mpr c31
             have c31b1 : (t309 != (rd t327 a1)) = false := bne_eq_false_iff_eq.mpr c31
             clear c31
             by_cases c32 : a1 < (t328.length : Int)
             ·rw [if_pos c32] at H
              have c32b0 : decide (a1 < (t328.length : Int)) = true := decide_eq_true c32
              clear c32
              by_cases c33 : t311 = (rd t328 a1)
              ·rw [if_pos c33] at H
               have c33b0 : (t311 == (rd t328 a1)) = true := beq_iff_eq.mpr c33
               have c33b1 : (t311 != (rd t328 a1)) = false := bne_eq_false_iff_eq.mpr c33
               clear c33
               have H' := Aside0.mk H
               clear H
               go_wp2_with (first | ((with_reducible refine gate_callee (f := 25) rfl ?_); refine goesL_ (some 114) rfl rfl Try.func25 (by kernel_rfl) rfl #[.int .i64 t310] rfl (by (try simp only [List.map_toArray, List.map_cons, List.map_nil]); first | done | rfl | (simp only [List.length_drop, List.length_take]; rfl)) ?_; (with_reducible refine (gantrylaw7_num.calls t310 t341 _ A23.out).mono ?_); rintro e w' ⟨rfl, ⟨nd, rfl⟩⟩; refine ⟨_, rfl, ?_⟩) | (go_at_call 25; (with_reducible refine (gantrylaw7_num.calls t312 t342 _ A25.out).mono ?_); rintro e w' ⟨rfl, ⟨nd, rfl⟩⟩) | (go_at_call 25; (with_reducible refine (gantrylaw7_num.calls t314 t343 _ A27.out).mono ?_); rintro e w' ⟨rfl, ⟨nd, rfl⟩⟩; obtain ⟨Ao34, co34, eo34⟩ := Kd.R_slice HO331.out; subst eo34; have p344 : 0 ≤ (a1 : Int) := of_decide_eq_true (by first | (with_reducible assumption) | assumption); have q344 : a1 < (t327.length : Int) := of_decide_eq_true (by first | (with_reducible assumption) | assumption); obtain ⟨ad344, e344, hx344_0⟩ := Kd.at_int (Kd.R_reads' HO331.out).2.2 a1 p344 q344; cases e344; replace p344 := eq_true p344; replace q344 := eq_true q344; obtain ⟨Ao35, co35, eo35⟩ := Kd.R_slice HO333.out; subst eo35; have p345 : 0 ≤ (a1 : Int) := of_decide_eq_true (by first | (with_reducible assumption) | assumption); have q345 : a1 < (t328.length : Int) := of_decide_eq_true (by first | (with_reducible assumption) | assumption); obtain ⟨ad345, e345, hx345_0⟩ := Kd.at_int (Kd.R_reads' HO333.out).2.2 a1 p345 q345; cases e345; replace p345 := eq_true p345; replace q345 := eq_true q345))
               go_meet
               case rel => exact ⟨_, ((t313 != t336)), (by first | rfl | (simp; done) | (simp [*]; done)), H', ⟨by have := HJ7.out; have := HJ14.out; first | omega | exact Nat.le_refl _⟩, ⟨by (with_reducible repeat (first | apply Kd.R_alloc | apply Kd.R_drewN | apply Kd.R_drew)); exact Kd.R_mono HO_13.out (fun _ hk => ⟨hk.1.1.1.1, ⟨hk.1.2, hk.2⟩⟩)⟩, ⟨by (with_reducible repeat (first | apply Kd.R_alloc | apply Kd.R_drewN | apply Kd.R_drew)); exact Kd.R_mono HO_14.out (fun _ hk => ⟨hk.1.1.1.1, ⟨hk.1.2, hk.2⟩⟩)⟩, ⟨by (with_reducible repeat (first | apply Kd.R_alloc | apply Kd.R_drewN | apply Kd.R_drew)); exact Kd.R_mono HO338.out (fun _ hk => ⟨hk.1.1.1.2, ⟨hk.1.1.2, hk.1.1.1.1⟩⟩)⟩, ⟨by (with_reducible repeat (first | apply Kd.R_alloc | apply Kd.R_drewN | apply Kd.R_drew)); exact Kd.R_mono HO340.out (fun _ hk => ⟨hk.1.1.1.2, ⟨hk.1.1.2, hk.1.1.1.1⟩⟩)⟩, ⟨by repeat (first | (with_reducible first | exact HB.out | apply below_alloc | apply pw_below_drewN | apply below_drew1) | exact HB.out)⟩⟩
              ·rw [if_neg c33] at H
               have c33b0 : (t311 == (rd t328 a1)) = false := beq_eq_false_iff_ne.mpr c33
               have c33b1 : (t311 != (rd t328 a1)) = true := bne_iff_ne.mpr c33
               have H' := Aside0.mk H
               clear H
               go_wp2_with (first | ((with_reducible refine gate_callee (f := 25) rfl ?_); refine goesL_ (some 114) rfl rfl Try.func25 (by kernel_rfl) rfl #[.int .i64 t310] rfl (by (try simp only [List.map_toArray, List.map_cons, List.map_nil]); first | done | rfl | (simp only [List.length_drop, List.length_take]; rfl)) ?_; (with_reducible refine (gantrylaw7_num.calls t310 t341 _ A23.out).mono ?_); rintro e w' ⟨rfl, ⟨nd, rfl⟩⟩; refine ⟨_, rfl, ?_⟩) | (go_at_call 25; (with_reducible refine (gantrylaw7_num.calls t312 t342 _ A25.out).mono ?_); rintro e w' ⟨rfl, ⟨nd, rfl⟩⟩) | (go_at_call 25; (with_reducible refine (gantrylaw7_num.calls t314 t343 _ A27.out).mono ?_); rintro e w' ⟨rfl, ⟨nd, rfl⟩⟩; obtain ⟨Ao36, co36, eo36⟩ := Kd.R_slice HO331.out; subst eo36; have p344 : 0 ≤ (a1 : Int) := of_decide_eq_true (by first | (with_reducible assumption) | assumption); have q344 : a1 < (t327.length : Int) := of_decide_eq_true (by first | (with_reducible assumption) | assumption); obtain ⟨ad344, e344, hx344_0⟩ := Kd.at_int (Kd.R_reads' HO331.out).2.2 a1 p344 q344; cases e344; replace p344 := eq_true p344; replace q344 := eq_true q344; obtain ⟨Ao37, co37, eo37⟩ := Kd.R_slice HO333.out; subst eo37; have p345 : 0 ≤ (a1 : Int) := of_decide_eq_true (by first | (with_reducible assumption) | assumption); have q345 : a1 < (t328.length : Int) := of_decide_eq_true (by first | (with_reducible assumption) | assumption); obtain ⟨ad345, e345, hx345_0⟩ := Kd.at_int (Kd.R_reads' HO333.out).2.2 a1 p345 q345; cases e345; replace p345 := eq_true p345; replace q345 := eq_true q345))
               go_meet
               case rel => exact ⟨_, (true), (by first | rfl | (simp; done) | (simp [*]; done)), H', ⟨by have := HJ7.out; have := HJ14.out; first | omega | exact Nat.le_refl _⟩, ⟨by (with_reducible repeat (first | apply Kd.R_alloc | apply Kd.R_drewN | apply Kd.R_drew)); exact Kd.R_mono HO_13.out (fun _ hk => ⟨hk.1.1.1.1, ⟨hk.1.2, hk.2⟩⟩)⟩, ⟨by (with_reducible repeat (first | apply Kd.R_alloc | apply Kd.R_drewN | apply Kd.R_drew)); exact Kd.R_mono HO_14.out (fun _ hk => ⟨hk.1.1.1.1, ⟨hk.1.2, hk.2⟩⟩)⟩, ⟨by (with_reducible repeat (first | apply Kd.R_alloc | apply Kd.R_drewN | apply Kd.R_drew)); exact Kd.R_mono HO338.out (fun _ hk => ⟨hk.1.1.1.2, ⟨hk.1.1.2, hk.1.1.1.1⟩⟩)⟩, ⟨by (with_reducible repeat (first | apply Kd.R_alloc | apply Kd.R_drewN | apply Kd.R_drew)); exact Kd.R_mono HO340.out (fun _ hk => ⟨hk.1.1.1.2, ⟨hk.1.1.2, hk.1.1.1.1⟩⟩)⟩, ⟨by repeat (first | (with_reducible first | exact HB.out | apply below_alloc | apply pw_below_drewN | apply below_drew1) | exact HB.out)⟩⟩
             ·rw [if_neg c32] at H
              exact absurd H (by simp)
            ·rw [if_neg c31] at H
             have c31b0 : (t309 == (rd t327 a1)) = false := beq_eq_false_iff_ne.mpr c31
             have c31b1 : (t309 != (rd t327 a1)) = true := bne_iff_ne.mpr c31
             have H' := Aside0.mk H
             clear H
             go_wp2_with (first | ((with_reducible refine gate_callee (f := 25) rfl ?_); refine goesL_ (some 114) rfl rfl Try.func25 (by kernel_rfl) rfl #[.int .i64 t310] rfl (by (try simp only [List.map_toArray, List.map_cons, List.map_nil]); first | done | rfl | (simp only [List.length_drop, List.length_take]; rfl)) ?_; (with_reducible refine (gantrylaw7_num.calls t310 t341 _ A23.out).mono ?_); rintro e w' ⟨rfl, ⟨nd, rfl⟩⟩; refine ⟨_, rfl, ?_⟩) | (go_at_call 25; (with_reducible refine (gantrylaw7_num.calls t312 t342 _ A25.out).mono ?_); rintro e w' ⟨rfl, ⟨nd, rfl⟩⟩) | (go_at_call 25; (with_reducible refine (gantrylaw7_num.calls t314 t343 _ A27.out).mono ?_); rintro e w' ⟨rfl, ⟨nd, rfl⟩⟩; obtain ⟨Ao38, co38, eo38⟩ := Kd.R_slice HO331.out; subst eo38; have p344 : 0 ≤ (a1 : Int) := of_decide_eq_true (by first | (with_reducible assumption) | assumption); have q344 : a1 < (t327.length : Int) := of_decide_eq_true (by first | (with_reducible assumption) | assumption); obtain ⟨ad344, e344, hx344_0⟩ := Kd.at_int (Kd.R_reads' HO331.out).2.2 a1 p344 q344; cases e344; replace p344 := eq_true p344; replace q344 := eq_true q344))
             go_meet
             case rel => exact ⟨_, (true), (by first | rfl | (simp; done) | (simp [*]; done)), H', ⟨by have := HJ7.out; have := HJ14.out; first | omega | exact Nat.le_refl _⟩, ⟨by (with_reducible repeat (first | apply Kd.R_alloc | apply Kd.R_drewN | apply Kd.R_drew)); exact Kd.R_mono HO_13.out (fun _ hk => ⟨hk.1.1.1.1, ⟨hk.1.2, hk.2⟩⟩)⟩, ⟨by (with_reducible repeat (first | apply Kd.R_alloc | apply Kd.R_drewN | apply Kd.R_drew)); exact Kd.R_mono HO_14.out (fun _ hk => ⟨hk.1.1.1.1, ⟨hk.1.2, hk.2⟩⟩)⟩, ⟨by (with_reducible repeat (first | apply Kd.R_alloc | apply Kd.R_drewN | apply Kd.R_drew)); exact Kd.R_mono HO338.out (fun _ hk => ⟨hk.1.1.1.2, ⟨hk.1.1.2, hk.1.1.1.1⟩⟩)⟩, ⟨by (with_reducible repeat (first | apply Kd.R_alloc | apply Kd.R_drewN | apply Kd.R_drew)); exact Kd.R_mono HO340.out (fun _ hk => ⟨hk.1.1.1.2, ⟨hk.1.1.2, hk.1.1.1.1⟩⟩)⟩, ⟨by repeat (first | (with_reducible first | exact HB.out | apply below_alloc | apply pw_below_drewN | apply below_drew1) | exact HB.out)⟩⟩
           ·rw [if_neg c30] at H
            exact absurd H (by simp)
          ·rw [if_neg c29] at H
           exact absurd H (by simp)
         ·rw [if_neg c28] at H
          have c28b0 : (t343 == 0) = false := beq_eq_false_iff_ne.mpr c28
          have c28b1 : (t343 != 0) = true := bne_iff_ne.mpr c28
          have H' := Aside0.mk H
          clear H
          go_wp2_with (first | ((with_reducible refine gate_callee (f := 25) rfl ?_); refine goesL_ (some 114) rfl rfl Try.func25 (by kernel_rfl) rfl #[.int .i64 t310] rfl (by (try simp only [List.map_toArray, List.map_cons, List.map_nil]); first | done | rfl | (simp only [List.length_drop, List.length_take]; rfl)) ?_; (with_reducible refine (gantrylaw7_num.calls t310 t341 _ A23.out).mono ?_); rintro e w' ⟨rfl, ⟨nd, rfl⟩⟩; refine ⟨_, rfl, ?_⟩) | (go_at_call 25; (with_reducible refine (gantrylaw7_num.calls t312 t342 _ A25.out).mono ?_); rintro e w' ⟨rfl, ⟨nd, rfl⟩⟩) | (go_at_call 25; (with_reducible refine (gantrylaw7_num.calls t314 t343 _ A27.out).mono ?_); rintro e w' ⟨rfl, ⟨nd, rfl⟩⟩))
          go_meet
          case rel => exact ⟨_, (true), (by first | rfl | (simp; done) | (simp [*]; done)), H', ⟨by have := HJ7.out; have := HJ14.out; first | omega | exact Nat.le_refl _⟩, ⟨by (with_reducible repeat (first | apply Kd.R_alloc | apply Kd.R_drewN | apply Kd.R_drew)); exact Kd.R_mono HO_13.out (fun _ hk => ⟨hk.1.1.1.1, ⟨hk.1.2, hk.2⟩⟩)⟩, ⟨by (with_reducible repeat (first | apply Kd.R_alloc | apply Kd.R_drewN | apply Kd.R_drew)); exact Kd.R_mono HO_14.out (fun _ hk => ⟨hk.1.1.1.1, ⟨hk.1.2, hk.2⟩⟩)⟩, ⟨by (with_reducible repeat (first | apply Kd.R_alloc | apply Kd.R_drewN | apply Kd.R_drew)); exact Kd.R_mono HO338.out (fun _ hk => ⟨hk.1.1.1.2, ⟨hk.1.1.2, hk.1.1.1.1⟩⟩)⟩, ⟨by (with_reducible repeat (first | apply Kd.R_alloc | apply Kd.R_drewN | apply Kd.R_drew)); exact Kd.R_mono HO340.out (fun _ hk => ⟨hk.1.1.1.2, ⟨hk.1.1.2, hk.1.1.1.1⟩⟩)⟩, ⟨by repeat (first | (with_reducible first | exact HB.out | apply below_alloc | apply pw_below_drewN | apply below_drew1) | exact HB.out)⟩⟩
        ·rw [if_neg c26] at H
         have c26b0 : (t342 == 0) = false := beq_eq_false_iff_ne.mpr c26
         have c26b1 : (t342 != 0) = true := bne_iff_ne.mpr c26
         have H' := Aside0.mk H
         clear H
         go_wp2_with (first | ((with_reducible refine gate_callee (f := 25) rfl ?_); refine goesL_ (some 114) rfl rfl Try.func25 (by kernel_rfl) rfl #[.int .i64 t310] rfl (by (try simp only [List.map_toArray, List.map_cons, List.map_nil]); first | done | rfl | (simp only [List.length_drop, List.length_take]; rfl)) ?_; (with_reducible refine (gantrylaw7_num.calls t310 t341 _ A23.out).mono ?_); rintro e w' ⟨rfl, ⟨nd, rfl⟩⟩; refine ⟨_, rfl, ?_⟩) | (go_at_call 25; (with_reducible refine (gantrylaw7_num.calls t312 t342 _ A25.out).mono ?_); rintro e w' ⟨rfl, ⟨nd, rfl⟩⟩))
         go_meet
         case rel => exact ⟨_, (true), (by first | rfl | (simp; done) | (simp [*]; done)), H', ⟨by have := HJ7.out; have := HJ14.out; first | omega | exact Nat.le_refl _⟩, ⟨by (with_reducible repeat (first | apply Kd.R_alloc | apply Kd.R_drewN | apply Kd.R_drew)); exact Kd.R_mono HO_13.out (fun _ hk => ⟨hk.1.1.1.1, ⟨hk.1.2, hk.2⟩⟩)⟩, ⟨by (with_reducible repeat (first | apply Kd.R_alloc | apply Kd.R_drewN | apply Kd.R_drew)); exact Kd.R_mono HO_14.out (fun _ hk => ⟨hk.1.1.1.1, ⟨hk.1.2, hk.2⟩⟩)⟩, ⟨by (with_reducible repeat (first | apply Kd.R_alloc | apply Kd.R_drewN | apply Kd.R_drew)); exact Kd.R_mono HO338.out (fun _ hk => ⟨hk.1.1.1.2, ⟨hk.1.1.2, hk.1.1.1.1⟩⟩)⟩, ⟨by (with_reducible repeat (first | apply Kd.R_alloc | apply Kd.R_drewN | apply Kd.R_drew)); exact Kd.R_mono HO340.out (fun _ hk => ⟨hk.1.1.1.2, ⟨hk.1.1.2, hk.1.1.1.1⟩⟩)⟩, ⟨by repeat (first | (with_reducible first | exact HB.out | apply below_alloc | apply pw_below_drewN | apply below_drew1) | exact HB.out)⟩⟩
       ·rw [if_neg c24] at H
        have c24b0 : (t341 == 0) = false := beq_eq_false_iff_ne.mpr c24
        have c24b1 : (t341 != 0) = true := bne_iff_ne.mpr c24
        (first | rw [c24b0] | (simp only [i64_w, i32_w]; rw [c24b0]) | skip)
        have H' := Aside0.mk H
        clear H
        go_wp2_with (first | ((with_reducible refine gate_callee (f := 25) rfl ?_); refine goesL_ (some 114) rfl rfl Try.func25 (by kernel_rfl) rfl #[.int .i64 t310] rfl (by (try simp only [List.map_toArray, List.map_cons, List.map_nil]); first | done | rfl | (simp only [List.length_drop, List.length_take]; rfl)) ?_; (with_reducible refine (gantrylaw7_num.calls t310 t341 _ A23.out).mono ?_); rintro e w' ⟨rfl, ⟨nd, rfl⟩⟩; refine ⟨_, rfl, ?_⟩))
        go_meet
        case rel => exact ⟨_, (true), (by first | rfl | (simp; done) | (simp [*]; done)), H', ⟨by have := HJ7.out; have := HJ14.out; first | omega | exact Nat.le_refl _⟩, ⟨by (with_reducible repeat (first | apply Kd.R_alloc | apply Kd.R_drewN | apply Kd.R_drew)); exact Kd.R_mono HO_13.out (fun _ hk => ⟨hk.1.1.1.1, ⟨hk.1.2, hk.2⟩⟩)⟩, ⟨by (with_reducible repeat (first | apply Kd.R_alloc | apply Kd.R_drewN | apply Kd.R_drew)); exact Kd.R_mono HO_14.out (fun _ hk => ⟨hk.1.1.1.1, ⟨hk.1.2, hk.2⟩⟩)⟩, ⟨by (with_reducible repeat (first | apply Kd.R_alloc | apply Kd.R_drewN | apply Kd.R_drew)); exact Kd.R_mono HO338.out (fun _ hk => ⟨hk.1.1.1.2, ⟨hk.1.1.2, hk.1.1.1.1⟩⟩)⟩, ⟨by (with_reducible repeat (first | apply Kd.R_alloc | apply Kd.R_drewN | apply Kd.R_drew)); exact Kd.R_mono HO340.out (fun _ hk => ⟨hk.1.1.1.2, ⟨hk.1.1.2, hk.1.1.1.1⟩⟩)⟩, ⟨by repeat (first | (with_reducible first | exact HB.out | apply below_alloc | apply pw_below_drewN | apply below_drew1) | exact HB.out)⟩⟩
      case rest =>
       clear HC20
       try clear c1
       try clear c2
       try clear p2
       try clear c3
       try clear p3
       try clear q3
       try clear hx3
       try clear c8
       try clear c13
       try clear c13b0
       try clear c13b1
       try clear c16
       try clear c17
       try clear c17b0
       try clear c17b1
       try clear c24
       try clear c24b0
       try clear c24b1
       try clear c25
       try clear c26
       try clear c26b0
       try clear c26b1
       try clear c28
       try clear c28b0
       try clear c28b1
       try clear c29
       try clear c29b0
       try clear c30
       try clear c30b0
       try clear c31
       try clear c31b0
       try clear c31b1
       try clear c32
       try clear c32b0
       try clear c33
       try clear c33b0
       try clear c33b1
       try clear c34
       try clear p34
       try clear q34
       try clear hx34
       try clear hx344_0
       try clear hx345_0
       try clear p2
       try clear p344
       try clear p345
       try clear q344
       try clear q345
       obtain ⟨kq, x146_19, rfl, HA, HJ19, HO_13, HO_14, HO_19, HO_20, HB⟩ := hcut
       cases kq with
       | zero => exact absurd HA.out (by simp [gantrylaw7_sizes.j2])
       | succ kj19 =>
        have H := HA.out
        clear HA
        simp only [gantrylaw7_sizes.j2] at H
        by_cases c39 : x146_19 = true
        ·subst c39
         have H1 : (some false) = some r := by rw [if_pos rfl] at H; exact H
         clear H
         have H := H1
         clear H1
         obtain rfl := Option.some.inj H
         go_wp2
         go_ret
         exact ⟨by first | rfl | (simp [errW_none, errW_some] <;> rfl) | (simp [*, errW_none, errW_some] <;> rfl), by repeat (first | (with_reducible first | exact HB.out | apply below_alloc | apply pw_below_drewN | apply below_drew1) | exact HB.out)⟩
        ·replace c39 := Bool.eq_false_iff.mpr c39
         subst c39
         have H1 : (if t336 = true then ((gantrylaw7_num.f t317).bind fun t346 => (if t346 = 0 then ((gantryref0_EqNumbers.f kj19 t315 t334).bind fun t347 => (if t347 = true then ((gantryref0_EqNumbers.f kj19 t316 t335).bind fun t348 => (if t348 = true then ((gantrylaw0_Numbers.f kj19 t315).bind fun _ => ((gantrylaw0_Numbers.f kj19 t316).bind fun _ => (some true))) else ((gantrylaw0_Numbers.f kj19 t315).bind fun _ => ((gantrylaw0_Numbers.f kj19 t316).bind fun _ => (some false))))) else ((gantrylaw0_Numbers.f kj19 t315).bind fun _ => ((gantrylaw0_Numbers.f kj19 t316).bind fun _ => (some false))))) else ((gantrylaw0_Numbers.f kj19 t315).bind fun _ => ((gantrylaw0_Numbers.f kj19 t316).bind fun _ => (some false))))) else ((gantrylaw7_num.f t317).bind fun t349 => (if t349 = 70 then ((gantrylaw0_Numbers.f kj19 t315).bind fun _ => ((gantrylaw0_Numbers.f kj19 t316).bind fun _ => (some ((wrap64 ((t315.length : Int) + (t316.length : Int))) == 0)))) else ((gantrylaw0_Numbers.f kj19 t315).bind fun _ => ((gantrylaw0_Numbers.f kj19 t316).bind fun _ => (some false)))))) = some r := by rw [if_neg (show ¬ (false = true) by decide)] at H; exact H
         clear H
         have H := H1
         clear H1
         by_cases c40 : t336 = true
         ·subst c40
          have H1 : ((gantrylaw7_num.f t317).bind fun t346 => (if t346 = 0 then ((gantryref0_EqNumbers.f kj19 t315 t334).bind fun t347 => (if t347 = true then ((gantryref0_EqNumbers.f kj19 t316 t335).bind fun t348 => (if t348 = true then ((gantrylaw0_Numbers.f kj19 t315).bind fun _ => ((gantrylaw0_Numbers.f kj19 t316).bind fun _ => (some true))) else ((gantrylaw0_Numbers.f kj19 t315).bind fun _ => ((gantrylaw0_Numbers.f kj19 t316).bind fun _ => (some false))))) else ((gantrylaw0_Numbers.f kj19 t315).bind fun _ => ((gantrylaw0_Numbers.f kj19 t316).bind fun _ => (some false))))) else ((gantrylaw0_Numbers.f kj19 t315).bind fun _ => ((gantrylaw0_Numbers.f kj19 t316).bind fun _ => (some false))))) = some r := by rw [if_pos rfl] at H; exact H
          clear H
          have H := H1
          clear H1
          replace H := Option.bind_eq_some_iff.mp H
          obtain ⟨t346, A410, H⟩ := H
          replace H : (if t346 = 0 then ((gantryref0_EqNumbers.f kj19 t315 t334).bind fun t347 => (if t347 = true then ((gantryref0_EqNumbers.f kj19 t316 t335).bind fun t348 => (if t348 = true then ((gantrylaw0_Numbers.f kj19 t315).bind fun _ => ((gantrylaw0_Numbers.f kj19 t316).bind fun _ => (some true))) else ((gantrylaw0_Numbers.f kj19 t315).bind fun _ => ((gantrylaw0_Numbers.f kj19 t316).bind fun _ => (some false))))) else ((gantrylaw0_Numbers.f kj19 t315).bind fun _ => ((gantrylaw0_Numbers.f kj19 t316).bind fun _ => (some false))))) else ((gantrylaw0_Numbers.f kj19 t315).bind fun _ => ((gantrylaw0_Numbers.f kj19 t316).bind fun _ => (some false)))) = some r := H
          have A41 := Aside0.mk A410
          clear A410
          by_cases c42 : t346 = 0
          ·rw [if_pos c42] at H
           have c42b0 : (t346 == 0) = true := beq_iff_eq.mpr c42
           have c42b1 : (t346 != 0) = false := bne_eq_false_iff_eq.mpr c42
           clear c42
           replace H := Option.bind_eq_some_iff.mp H
           obtain ⟨t347, A430, H⟩ := H
           replace H : (if t347 = true then ((gantryref0_EqNumbers.f kj19 t316 t335).bind fun t348 => (if t348 = true then ((gantrylaw0_Numbers.f kj19 t315).bind fun _ => ((gantrylaw0_Numbers.f kj19 t316).bind fun _ => (some true))) else ((gantrylaw0_Numbers.f kj19 t315).bind fun _ => ((gantrylaw0_Numbers.f kj19 t316).bind fun _ => (some false))))) else ((gantrylaw0_Numbers.f kj19 t315).bind fun _ => ((gantrylaw0_Numbers.f kj19 t316).bind fun _ => (some false)))) = some r := H
           have A43 := Aside0.mk A430
           clear A430
           by_cases c44 : t347 = true
           ·subst c44
            have H1 : ((gantryref0_EqNumbers.f kj19 t316 t335).bind fun t348 => (if t348 = true then ((gantrylaw0_Numbers.f kj19 t315).bind fun _ => ((gantrylaw0_Numbers.f kj19 t316).bind fun _ => (some true))) else ((gantrylaw0_Numbers.f kj19 t315).bind fun _ => ((gantrylaw0_Numbers.f kj19 t316).bind fun _ => (some false))))) = some r := by rw [if_pos rfl] at H; exact H
            clear H
            have H := H1
            clear H1
            replace H := Option.bind_eq_some_iff.mp H
            obtain ⟨t348, A450, H⟩ := H
            replace H : (if t348 = true then ((gantrylaw0_Numbers.f kj19 t315).bind fun _ => ((gantrylaw0_Numbers.f kj19 t316).bind fun _ => (some true))) else ((gantrylaw0_Numbers.f kj19 t315).bind fun _ => ((gantrylaw0_Numbers.f kj19 t316).bind fun _ => (some false)))) = some r := H
            have A45 := Aside0.mk A450
            clear A450
            by_cases c46 : t348 = true
            ·subst c46
             have H1 : ((gantrylaw0_Numbers.f kj19 t315).bind fun _ => ((gantrylaw0_Numbers.f kj19 t316).bind fun _ => (some true))) = some r := by rw [if_pos rfl] at H; exact H
             clear H
             have H := H1
             clear H1
             replace H := Option.bind_eq_some_iff.mp H
             obtain ⟨_, A470, H⟩ := H
             replace H : ((gantrylaw0_Numbers.f kj19 t316).bind fun _ => (some true)) = some r := H
             have A47 := Aside0.mk A470
             clear A470
             replace H := Option.bind_eq_some_iff.mp H
             obtain ⟨_, A480, H⟩ := H
             replace H : (some true) = some r := H
             have A48 := Aside0.mk A480
             clear A480
             obtain rfl := Option.some.inj H
             go_wp2_with (first | (go_at_call 25; (with_reducible refine (gantrylaw7_num.calls t317 t346 _ A41.out).mono ?_); rintro e w' ⟨rfl, ⟨nd, rfl⟩⟩; obtain ⟨Ao49, co49, eo49⟩ := Kd.R_slice HO_13.out; subst eo49; obtain ⟨Ao50, co50, eo50⟩ := Kd.R_slice HO_19.out; subst eo50) | (go_at_call 89; (with_reducible refine (gantryref0_EqNumbers.calls kj19 _ _ t315 _ _ t334 true _ ?side1 ?side2 ?side3 ?side4 A43.out).mono ?_); (case side1 => repeat (first | exact (Kd.R_reads' HO_13.out).2.2 | (with_reducible refine Kd.C_alloc ?_ _) | (with_reducible refine Kd.C_drewN ?_ _) | (with_reducible refine Kd.C_drew ?_))); (case side2 => exact (Kd.R_reads' HO_13.out).2.1); (case side3 => repeat (first | exact (Kd.R_reads' HO_19.out).2.2 | (with_reducible refine Kd.C_alloc ?_ _) | (with_reducible refine Kd.C_drewN ?_ _) | (with_reducible refine Kd.C_drew ?_))); (case side4 => exact (Kd.R_reads' HO_19.out).2.1); rintro e w' ⟨rfl, ⟨nd, rfl⟩⟩; obtain ⟨Ao51, co51, eo51⟩ := Kd.R_slice HO_14.out; subst eo51; obtain ⟨Ao52, co52, eo52⟩ := Kd.R_slice HO_20.out; subst eo52) | (go_at_call 89; (with_reducible refine (gantryref0_EqNumbers.calls kj19 _ _ t316 _ _ t335 true _ ?side1 ?side2 ?side3 ?side4 A45.out).mono ?_); (case side1 => repeat (first | exact (Kd.R_reads' HO_14.out).2.2 | (with_reducible refine Kd.C_alloc ?_ _) | (with_reducible refine Kd.C_drewN ?_ _) | (with_reducible refine Kd.C_drew ?_))); (case side2 => exact (Kd.R_reads' HO_14.out).2.1); (case side3 => repeat (first | exact (Kd.R_reads' HO_20.out).2.2 | (with_reducible refine Kd.C_alloc ?_ _) | (with_reducible refine Kd.C_drewN ?_ _) | (with_reducible refine Kd.C_drew ?_))); (case side4 => exact (Kd.R_reads' HO_20.out).2.1); rintro e w' ⟨rfl, ⟨nd, rfl⟩⟩) | ((with_reducible refine gate_callee (f := 90) rfl ?_); refine goesL_ (some 181) rfl rfl Try.func90 (by kernel_rfl) rfl #[.slice Ao49 t315.length co49] rfl (by (try simp only [List.map_toArray, List.map_cons, List.map_nil]); first | done | rfl | (simp only [List.length_drop, List.length_take]; rfl)) ?_; (with_reducible refine (gantrylaw0_Numbers.calls kj19 (fun k_ => some k_ = (.slice Ao49 t315.length co49 : Value).ownBlock) (.slice Ao49 t315.length co49) t315  w _ ?side1 ?side2 A47.out).mono ?_); (case side1 => repeat (first | (with_reducible first | exact HB.out | apply below_alloc | apply pw_below_drewN | apply below_drew1) | exact HB.out)); (case side2 => exact Kd.R_tight rfl HO_13.out); rintro e w53 ⟨rfl, hb, hkp⟩; refine ⟨_, rfl, ?_⟩; have n0_ := Aside0.mk (Kd.R_mono (ok' := fun k_ => some k_ ≠ (.slice Ao50 t334.length co50 : Value).ownBlock ∧ some k_ ≠ (.slice Ao52 t335.length co52 : Value).ownBlock) (Kd.R_keptB (HO_14.out) hkp (fun k_ hk_ hs_ => (hk_.1) hs_)) (fun k_ hk_ => ⟨hk_.1.2.1, hk_.1.2.2⟩)); have n1_ := Aside0.mk (Kd.R_mono (ok' := fun k_ => some k_ ≠ (.slice Ao51 t316.length co51 : Value).ownBlock ∧ some k_ ≠ (.slice Ao52 t335.length co52 : Value).ownBlock) (Kd.R_keptB (HO_19.out) hkp (fun k_ hk_ hs_ => (hk_.1) hs_)) (fun k_ hk_ => ⟨hk_.1.2.1, hk_.1.2.2⟩)); have n2_ := Aside0.mk (Kd.R_mono (ok' := fun k_ => some k_ ≠ (.slice Ao51 t316.length co51 : Value).ownBlock ∧ some k_ ≠ (.slice Ao50 t334.length co50 : Value).ownBlock) (Kd.R_keptB (HO_20.out) hkp (fun k_ hk_ hs_ => (hk_.1) hs_)) (fun k_ hk_ => ⟨hk_.1.2.1, hk_.1.2.2⟩)); have n3_ := Aside0.mk (hb); clear HO_14; clear HO_19; clear HO_20; clear HB; clear HO_13; have HO_14 := n0_; have HO_19 := n1_; have HO_20 := n2_; have HB := n3_; clear n0_ n1_ n2_ n3_; (try clear hb); (try clear hkp)) | ((with_reducible refine gate_callee (f := 90) rfl ?_); refine goesL_ (some 183) rfl rfl Try.func90 (by kernel_rfl) rfl #[.slice Ao51 t316.length co51] rfl (by (try simp only [List.map_toArray, List.map_cons, List.map_nil]); first | done | rfl | (simp only [List.length_drop, List.length_take]; rfl)) ?_; (with_reducible refine (gantrylaw0_Numbers.calls kj19 (fun k_ => some k_ = (.slice Ao51 t316.length co51 : Value).ownBlock) (.slice Ao51 t316.length co51) t316  w _ ?side1 ?side2 A48.out).mono ?_); (case side1 => repeat (first | (with_reducible first | exact HB.out | apply below_alloc | apply pw_below_drewN | apply below_drew1) | exact HB.out)); (case side2 => exact Kd.R_tight rfl HO_14.out); rintro e w54 ⟨rfl, hb, hkp⟩; refine ⟨_, rfl, ?_⟩; have n0_ := Aside0.mk (Kd.R_mono (ok' := fun k_ => some k_ ≠ (.slice Ao52 t335.length co52 : Value).ownBlock) (Kd.R_keptB (HO_19.out) hkp (fun k_ hk_ hs_ => (hk_.1) hs_)) (fun k_ hk_ => hk_.1.2)); have n1_ := Aside0.mk (Kd.R_mono (ok' := fun k_ => some k_ ≠ (.slice Ao50 t334.length co50 : Value).ownBlock) (Kd.R_keptB (HO_20.out) hkp (fun k_ hk_ hs_ => (hk_.1) hs_)) (fun k_ hk_ => hk_.1.2)); have n2_ := Aside0.mk (hb); clear HO_19; clear HO_20; clear HB; clear HO_14; have HO_19 := n0_; have HO_20 := n1_; have HB := n2_; clear n0_ n1_ n2_; (try clear hb); (try clear hkp)))
             go_ret
             exact ⟨by first | rfl | (simp [errW_none, errW_some] <;> rfl) | (simp [*, errW_none, errW_some] <;> rfl), by repeat (first | (with_reducible first | exact HB.out | apply below_alloc | apply pw_below_drewN | apply below_drew1) | exact HB.out)⟩
            ·replace c46 := Bool.eq_false_iff.mpr c46
             subst c46
             have H1 : ((gantrylaw0_Numbers.f kj19 t315).bind fun _ => ((gantrylaw0_Numbers.f kj19 t316).bind fun _ => (some false))) = some r := by rw [if_neg (show ¬ (false = true) by decide)] at H; exact H
             clear H
             have H := H1
             clear H1
             replace H := Option.bind_eq_some_iff.mp H
             obtain ⟨_, A550, H⟩ := H
             replace H : ((gantrylaw0_Numbers.f kj19 t316).bind fun _ => (some false)) = some r := H
             have A55 := Aside0.mk A550
             clear A550
             replace H := Option.bind_eq_some_iff.mp H
             obtain ⟨_, A560, H⟩ := H
             replace H : (some false) = some r := H
             have A56 := Aside0.mk A560
             clear A560
             obtain rfl := Option.some.inj H
             go_wp2_with (first | (go_at_call 25; (with_reducible refine (gantrylaw7_num.calls t317 t346 _ A41.out).mono ?_); rintro e w' ⟨rfl, ⟨nd, rfl⟩⟩; obtain ⟨Ao57, co57, eo57⟩ := Kd.R_slice HO_13.out; subst eo57; obtain ⟨Ao58, co58, eo58⟩ := Kd.R_slice HO_19.out; subst eo58) | (go_at_call 89; (with_reducible refine (gantryref0_EqNumbers.calls kj19 _ _ t315 _ _ t334 true _ ?side1 ?side2 ?side3 ?side4 A43.out).mono ?_); (case side1 => repeat (first | exact (Kd.R_reads' HO_13.out).2.2 | (with_reducible refine Kd.C_alloc ?_ _) | (with_reducible refine Kd.C_drewN ?_ _) | (with_reducible refine Kd.C_drew ?_))); (case side2 => exact (Kd.R_reads' HO_13.out).2.1); (case side3 => repeat (first | exact (Kd.R_reads' HO_19.out).2.2 | (with_reducible refine Kd.C_alloc ?_ _) | (with_reducible refine Kd.C_drewN ?_ _) | (with_reducible refine Kd.C_drew ?_))); (case side4 => exact (Kd.R_reads' HO_19.out).2.1); rintro e w' ⟨rfl, ⟨nd, rfl⟩⟩; obtain ⟨Ao59, co59, eo59⟩ := Kd.R_slice HO_14.out; subst eo59; obtain ⟨Ao60, co60, eo60⟩ := Kd.R_slice HO_20.out; subst eo60) | (go_at_call 89; (with_reducible refine (gantryref0_EqNumbers.calls kj19 _ _ t316 _ _ t335 false _ ?side1 ?side2 ?side3 ?side4 A45.out).mono ?_); (case side1 => repeat (first | exact (Kd.R_reads' HO_14.out).2.2 | (with_reducible refine Kd.C_alloc ?_ _) | (with_reducible refine Kd.C_drewN ?_ _) | (with_reducible refine Kd.C_drew ?_))); (case side2 => exact (Kd.R_reads' HO_14.out).2.1); (case side3 => repeat (first | exact (Kd.R_reads' HO_20.out).2.2 | (with_reducible refine Kd.C_alloc ?_ _) | (with_reducible refine Kd.C_drewN ?_ _) | (with_reducible refine Kd.C_drew ?_))); (case side4 => exact (Kd.R_reads' HO_20.out).2.1); rintro e w' ⟨rfl, ⟨nd, rfl⟩⟩) | ((with_reducible refine gate_callee (f := 90) rfl ?_); refine goesL_ (some 181) rfl rfl Try.func90 (by kernel_rfl) rfl #[.slice Ao57 t315.length co57] rfl (by (try simp only [List.map_toArray, List.map_cons, List.map_nil]); first | done | rfl | (simp only [List.length_drop, List.length_take]; rfl)) ?_; (with_reducible refine (gantrylaw0_Numbers.calls kj19 (fun k_ => some k_ = (.slice Ao57 t315.length co57 : Value).ownBlock) (.slice Ao57 t315.length co57) t315  w _ ?side1 ?side2 A55.out).mono ?_); (case side1 => repeat (first | (with_reducible first | exact HB.out | apply below_alloc | apply pw_below_drewN | apply below_drew1) | exact HB.out)); (case side2 => exact Kd.R_tight rfl HO_13.out); rintro e w61 ⟨rfl, hb, hkp⟩; refine ⟨_, rfl, ?_⟩; have n0_ := Aside0.mk (Kd.R_mono (ok' := fun k_ => some k_ ≠ (.slice Ao58 t334.length co58 : Value).ownBlock ∧ some k_ ≠ (.slice Ao60 t335.length co60 : Value).ownBlock) (Kd.R_keptB (HO_14.out) hkp (fun k_ hk_ hs_ => (hk_.1) hs_)) (fun k_ hk_ => ⟨hk_.1.2.1, hk_.1.2.2⟩)); have n1_ := Aside0.mk (Kd.R_mono (ok' := fun k_ => some k_ ≠ (.slice Ao59 t316.length co59 : Value).ownBlock ∧ some k_ ≠ (.slice Ao60 t335.length co60 : Value).ownBlock) (Kd.R_keptB (HO_19.out) hkp (fun k_ hk_ hs_ => (hk_.1) hs_)) (fun k_ hk_ => ⟨hk_.1.2.1, hk_.1.2.2⟩)); have n2_ := Aside0.mk (Kd.R_mono (ok' := fun k_ => some k_ ≠ (.slice Ao59 t316.length co59 : Value).ownBlock ∧ some k_ ≠ (.slice Ao58 t334.length co58 : Value).ownBlock) (Kd.R_keptB (HO_20.out) hkp (fun k_ hk_ hs_ => (hk_.1) hs_)) (fun k_ hk_ => ⟨hk_.1.2.1, hk_.1.2.2⟩)); have n3_ := Aside0.mk (hb); clear HO_14; clear HO_19; clear HO_20; clear HB; clear HO_13; have HO_14 := n0_; have HO_19 := n1_; have HO_20 := n2_; have HB := n3_; clear n0_ n1_ n2_ n3_; (try clear hb); (try clear hkp)) | ((with_reducible refine gate_callee (f := 90) rfl ?_); refine goesL_ (some 183) rfl rfl Try.func90 (by kernel_rfl) rfl #[.slice Ao59 t316.length co59] rfl (by (try simp only [List.map_toArray, List.map_cons, List.map_nil]); first | done | rfl | (simp only [List.length_drop, List.length_take]; rfl)) ?_; (with_reducible refine (gantrylaw0_Numbers.calls kj19 (fun k_ => some k_ = (.slice Ao59 t316.length co59 : Value).ownBlock) (.slice Ao59 t316.length co59) t316  w _ ?side1 ?side2 A56.out).mono ?_); (case side1 => repeat (first | (with_reducible first | exact HB.out | apply below_alloc | apply pw_below_drewN | apply below_drew1) | exact HB.out)); (case side2 => exact Kd.R_tight rfl HO_14.out); rintro e w62 ⟨rfl, hb, hkp⟩; refine ⟨_, rfl, ?_⟩; have n0_ := Aside0.mk (Kd.R_mono (ok' := fun k_ => some k_ ≠ (.slice Ao60 t335.length co60 : Value).ownBlock) (Kd.R_keptB (HO_19.out) hkp (fun k_ hk_ hs_ => (hk_.1) hs_)) (fun k_ hk_ => hk_.1.2)); have n1_ := Aside0.mk (Kd.R_mono (ok' := fun k_ => some k_ ≠ (.slice Ao58 t334.length co58 : Value).ownBlock) (Kd.R_keptB (HO_20.out) hkp (fun k_ hk_ hs_ => (hk_.1) hs_)) (fun k_ hk_ => hk_.1.2)); have n2_ := Aside0.mk (hb); clear HO_19; clear HO_20; clear HB; clear HO_14; have HO_19 := n0_; have HO_20 := n1_; have HB := n2_; clear n0_ n1_ n2_; (try clear hb); (try clear hkp)))
             go_ret
             exact ⟨by first | rfl | (simp [errW_none, errW_some] <;> rfl) | (simp [*, errW_none, errW_some] <;> rfl), by repeat (first | (with_reducible first | exact HB.out | apply below_alloc | apply pw_below_drewN | apply below_drew1) | exact HB.out)⟩
           ·replace c44 := Bool.eq_false_iff.mpr c44
            subst c44
            have H1 : ((gantrylaw0_Numbers.f kj19 t315).bind fun _ => ((gantrylaw0_Numbers.f kj19 t316).bind fun _ => (some false))) = some r := by rw [if_neg (show ¬ (false = true) by decide)] at H; exact H
            clear H
            have H := H1
            clear H1
            replace H := Option.bind_eq_some_iff.mp H
            obtain ⟨_, A630, H⟩ := H
            replace H : ((gantrylaw0_Numbers.f kj19 t316).bind fun _ => (some false)) = some r := H
            have A63 := Aside0.mk A630
            clear A630
            replace H := Option.bind_eq_some_iff.mp H
            obtain ⟨_, A640, H⟩ := H
            replace H : (some false) = some r := H
            have A64 := Aside0.mk A640
            clear A640
            obtain rfl := Option.some.inj H
            go_wp2_with (first | (go_at_call 25; (with_reducible refine (gantrylaw7_num.calls t317 t346 _ A41.out).mono ?_); rintro e w' ⟨rfl, ⟨nd, rfl⟩⟩; obtain ⟨Ao65, co65, eo65⟩ := Kd.R_slice HO_13.out; subst eo65; obtain ⟨Ao66, co66, eo66⟩ := Kd.R_slice HO_19.out; subst eo66) | (go_at_call 89; (with_reducible refine (gantryref0_EqNumbers.calls kj19 _ _ t315 _ _ t334 false _ ?side1 ?side2 ?side3 ?side4 A43.out).mono ?_); (case side1 => repeat (first | exact (Kd.R_reads' HO_13.out).2.2 | (with_reducible refine Kd.C_alloc ?_ _) | (with_reducible refine Kd.C_drewN ?_ _) | (with_reducible refine Kd.C_drew ?_))); (case side2 => exact (Kd.R_reads' HO_13.out).2.1); (case side3 => repeat (first | exact (Kd.R_reads' HO_19.out).2.2 | (with_reducible refine Kd.C_alloc ?_ _) | (with_reducible refine Kd.C_drewN ?_ _) | (with_reducible refine Kd.C_drew ?_))); (case side4 => exact (Kd.R_reads' HO_19.out).2.1); rintro e w' ⟨rfl, ⟨nd, rfl⟩⟩) | ((with_reducible refine gate_callee (f := 90) rfl ?_); refine goesL_ (some 181) rfl rfl Try.func90 (by kernel_rfl) rfl #[.slice Ao65 t315.length co65] rfl (by (try simp only [List.map_toArray, List.map_cons, List.map_nil]); first | done | rfl | (simp only [List.length_drop, List.length_take]; rfl)) ?_; (with_reducible refine (gantrylaw0_Numbers.calls kj19 (fun k_ => some k_ = (.slice Ao65 t315.length co65 : Value).ownBlock) (.slice Ao65 t315.length co65) t315  w _ ?side1 ?side2 A63.out).mono ?_); (case side1 => repeat (first | (with_reducible first | exact HB.out | apply below_alloc | apply pw_below_drewN | apply below_drew1) | exact HB.out)); (case side2 => exact Kd.R_tight rfl HO_13.out); rintro e w67 ⟨rfl, hb, hkp⟩; refine ⟨_, rfl, ?_⟩; have n0_ := Aside0.mk (Kd.R_mono (ok' := fun k_ => some k_ ≠ (.slice Ao66 t334.length co66 : Value).ownBlock ∧ some k_ ≠ (v339 : Value).ownBlock) (Kd.R_keptB (HO_14.out) hkp (fun k_ hk_ hs_ => (hk_.1) hs_)) (fun k_ hk_ => ⟨hk_.1.2.1, hk_.1.2.2⟩)); have n1_ := Aside0.mk (Kd.R_mono (ok' := fun k_ => some k_ ≠ (v320 : Value).ownBlock ∧ some k_ ≠ (v339 : Value).ownBlock) (Kd.R_keptB (HO_19.out) hkp (fun k_ hk_ hs_ => (hk_.1) hs_)) (fun k_ hk_ => ⟨hk_.1.2.1, hk_.1.2.2⟩)); have n2_ := Aside0.mk (Kd.R_mono (ok' := fun k_ => some k_ ≠ (v320 : Value).ownBlock ∧ some k_ ≠ (.slice Ao66 t334.length co66 : Value).ownBlock) (Kd.R_keptB (HO_20.out) hkp (fun k_ hk_ hs_ => (hk_.1) hs_)) (fun k_ hk_ => ⟨hk_.1.2.1, hk_.1.2.2⟩)); have n3_ := Aside0.mk (hb); clear HO_14; clear HO_19; clear HO_20; clear HB; clear HO_13; have HO_14 := n0_; have HO_19 := n1_; have HO_20 := n2_; have HB := n3_; clear n0_ n1_ n2_ n3_; (try clear hb); (try clear hkp); obtain ⟨Ao68, co68, eo68⟩ := Kd.R_slice HO_14.out; subst eo68) | ((with_reducible refine gate_callee (f := 90) rfl ?_); refine goesL_ (some 183) rfl rfl Try.func90 (by kernel_rfl) rfl #[.slice Ao68 t316.length co68] rfl (by (try simp only [List.map_toArray, List.map_cons, List.map_nil]); first | done | rfl | (simp only [List.length_drop, List.length_take]; rfl)) ?_; (with_reducible refine (gantrylaw0_Numbers.calls kj19 (fun k_ => some k_ = (.slice Ao68 t316.length co68 : Value).ownBlock) (.slice Ao68 t316.length co68) t316  w _ ?side1 ?side2 A64.out).mono ?_); (case side1 => repeat (first | (with_reducible first | exact HB.out | apply below_alloc | apply pw_below_drewN | apply below_drew1) | exact HB.out)); (case side2 => exact Kd.R_tight rfl HO_14.out); rintro e w69 ⟨rfl, hb, hkp⟩; refine ⟨_, rfl, ?_⟩; have n0_ := Aside0.mk (Kd.R_mono (ok' := fun k_ => some k_ ≠ (v339 : Value).ownBlock) (Kd.R_keptB (HO_19.out) hkp (fun k_ hk_ hs_ => (hk_.1) hs_)) (fun k_ hk_ => hk_.1.2)); have n1_ := Aside0.mk (Kd.R_mono (ok' := fun k_ => some k_ ≠ (.slice Ao66 t334.length co66 : Value).ownBlock) (Kd.R_keptB (HO_20.out) hkp (fun k_ hk_ hs_ => (hk_.1) hs_)) (fun k_ hk_ => hk_.1.2)); have n2_ := Aside0.mk (hb); clear HO_19; clear HO_20; clear HB; clear HO_14; have HO_19 := n0_; have HO_20 := n1_; have HB := n2_; clear n0_ n1_ n2_; (try clear hb); (try clear hkp)))
            go_ret
            exact ⟨by first | rfl | (simp [errW_none, errW_some] <;> rfl) | (simp [*, errW_none, errW_some] <;> rfl), by repeat (first | (with_reducible first | exact HB.out | apply below_alloc | apply pw_below_drewN | apply below_drew1) | exact HB.out)⟩
          ·rw [if_neg c42] at H
           have c42b0 : (t346 == 0) = false := beq_eq_false_iff_ne.mpr c42
           have c42b1 : (t346 != 0) = true := bne_iff_ne.mpr c42
           replace H := Option.bind_eq_some_iff.mp H
           obtain ⟨_, A700, H⟩ := H
           replace H : ((gantrylaw0_Numbers.f kj19 t316).bind fun _ => (some false)) = some r := H
           have A70 := Aside0.mk A700
           clear A700
           replace H := Option.bind_eq_some_iff.mp H
           obtain ⟨_, A710, H⟩ := H
           replace H : (some false) = some r := H
           have A71 := Aside0.mk A710
           clear A710
           obtain rfl := Option.some.inj H
           go_wp2_with (first | (go_at_call 25; (with_reducible refine (gantrylaw7_num.calls t317 t346 _ A41.out).mono ?_); rintro e w' ⟨rfl, ⟨nd, rfl⟩⟩; obtain ⟨Ao72, co72, eo72⟩ := Kd.R_slice HO_13.out; subst eo72) | ((with_reducible refine gate_callee (f := 90) rfl ?_); refine goesL_ (some 181) rfl rfl Try.func90 (by kernel_rfl) rfl #[.slice Ao72 t315.length co72] rfl (by (try simp only [List.map_toArray, List.map_cons, List.map_nil]); first | done | rfl | (simp only [List.length_drop, List.length_take]; rfl)) ?_; (with_reducible refine (gantrylaw0_Numbers.calls kj19 (fun k_ => some k_ = (.slice Ao72 t315.length co72 : Value).ownBlock) (.slice Ao72 t315.length co72) t315  w _ ?side1 ?side2 A70.out).mono ?_); (case side1 => repeat (first | (with_reducible first | exact HB.out | apply below_alloc | apply pw_below_drewN | apply below_drew1) | exact HB.out)); (case side2 => exact Kd.R_tight rfl HO_13.out); rintro e w73 ⟨rfl, hb, hkp⟩; refine ⟨_, rfl, ?_⟩; have n0_ := Aside0.mk (Kd.R_mono (ok' := fun k_ => some k_ ≠ (v337 : Value).ownBlock ∧ some k_ ≠ (v339 : Value).ownBlock) (Kd.R_keptB (HO_14.out) hkp (fun k_ hk_ hs_ => (hk_.1) hs_)) (fun k_ hk_ => ⟨hk_.1.2.1, hk_.1.2.2⟩)); have n1_ := Aside0.mk (Kd.R_mono (ok' := fun k_ => some k_ ≠ (v320 : Value).ownBlock ∧ some k_ ≠ (v339 : Value).ownBlock) (Kd.R_keptB (HO_19.out) hkp (fun k_ hk_ hs_ => (hk_.1) hs_)) (fun k_ hk_ => ⟨hk_.1.2.1, hk_.1.2.2⟩)); have n2_ := Aside0.mk (Kd.R_mono (ok' := fun k_ => some k_ ≠ (v320 : Value).ownBlock ∧ some k_ ≠ (v337 : Value).ownBlock) (Kd.R_keptB (HO_20.out) hkp (fun k_ hk_ hs_ => (hk_.1) hs_)) (fun k_ hk_ => ⟨hk_.1.2.1, hk_.1.2.2⟩)); have n3_ := Aside0.mk (hb); clear HO_14; clear HO_19; clear HO_20; clear HB; clear HO_13; have HO_14 := n0_; have HO_19 := n1_; have HO_20 := n2_; have HB := n3_; clear n0_ n1_ n2_ n3_; (try clear hb); (try clear hkp); obtain ⟨Ao74, co74, eo74⟩ := Kd.R_slice HO_14.out; subst eo74) | ((with_reducible refine gate_callee (f := 90) rfl ?_); refine goesL_ (some 183) rfl rfl Try.func90 (by kernel_rfl) rfl #[.slice Ao74 t316.length co74] rfl (by (try simp only [List.map_toArray, List.map_cons, List.map_nil]); first | done | rfl | (simp only [List.length_drop, List.length_take]; rfl)) ?_; (with_reducible refine (gantrylaw0_Numbers.calls kj19 (fun k_ => some k_ = (.slice Ao74 t316.length co74 : Value).ownBlock) (.slice Ao74 t316.length co74) t316  w _ ?side1 ?side2 A71.out).mono ?_); (case side1 => repeat (first | (with_reducible first | exact HB.out | apply below_alloc | apply pw_below_drewN | apply below_drew1) | exact HB.out)); (case side2 => exact Kd.R_tight rfl HO_14.out); rintro e w75 ⟨rfl, hb, hkp⟩; refine ⟨_, rfl, ?_⟩; have n0_ := Aside0.mk (Kd.R_mono (ok' := fun k_ => some k_ ≠ (v339 : Value).ownBlock) (Kd.R_keptB (HO_19.out) hkp (fun k_ hk_ hs_ => (hk_.1) hs_)) (fun k_ hk_ => hk_.1.2)); have n1_ := Aside0.mk (Kd.R_mono (ok' := fun k_ => some k_ ≠ (v337 : Value).ownBlock) (Kd.R_keptB (HO_20.out) hkp (fun k_ hk_ hs_ => (hk_.1) hs_)) (fun k_ hk_ => hk_.1.2)); have n2_ := Aside0.mk (hb); clear HO_19; clear HO_20; clear HB; clear HO_14; have HO_19 := n0_; have HO_20 := n1_; have HB := n2_; clear n0_ n1_ n2_; (try clear hb); (try clear hkp)))
           go_ret
           exact ⟨by first | rfl | (simp [errW_none, errW_some] <;> rfl) | (simp [*, errW_none, errW_some] <;> rfl), by repeat (first | (with_reducible first | exact HB.out | apply below_alloc | apply pw_below_drewN | apply below_drew1) | exact HB.out)⟩
         ·replace c40 := Bool.eq_false_iff.mpr c40
          subst c40
          have H1 : ((gantrylaw7_num.f t317).bind fun t349 => (if t349 = 70 then ((gantrylaw0_Numbers.f kj19 t315).bind fun _ => ((gantrylaw0_Numbers.f kj19 t316).bind fun _ => (some ((wrap64 ((t315.length : Int) + (t316.length : Int))) == 0)))) else ((gantrylaw0_Numbers.f kj19 t315).bind fun _ => ((gantrylaw0_Numbers.f kj19 t316).bind fun _ => (some false))))) = some r := by rw [if_neg (show ¬ (false = true) by decide)] at H; exact H
          clear H
          have H := H1
          clear H1
          replace H := Option.bind_eq_some_iff.mp H
          obtain ⟨t349, A760, H⟩ := H
          replace H : (if t349 = 70 then ((gantrylaw0_Numbers.f kj19 t315).bind fun _ => ((gantrylaw0_Numbers.f kj19 t316).bind fun _ => (some ((wrap64 ((t315.length : Int) + (t316.length : Int))) == 0)))) else ((gantrylaw0_Numbers.f kj19 t315).bind fun _ => ((gantrylaw0_Numbers.f kj19 t316).bind fun _ => (some false)))) = some r := H
          have A76 := Aside0.mk A760
          clear A760
          by_cases c77 : t349 = 70
          ·rw [if_pos c77] at H
           have c77b0 : (t349 == 70) = true := beq_iff_eq.mpr c77
           have c77b1 : (t349 != 70) = false := bne_eq_false_iff_eq.mpr c77
           clear c77
           replace H := Option.bind_eq_some_iff.mp H
           obtain ⟨_, A780, H⟩ := H
           replace H : ((gantrylaw0_Numbers.f kj19 t316).bind fun _ => (some ((wrap64 ((t315.length : Int) + (t316.length : Int))) == 0))) = some r := H
           have A78 := Aside0.mk A780
           clear A780
           replace H := Option.bind_eq_some_iff.mp H
           obtain ⟨_, A790, H⟩ := H
           replace H : (some ((wrap64 ((t315.length : Int) + (t316.length : Int))) == 0)) = some r := H
           have A79 := Aside0.mk A790
           clear A790
           obtain rfl := Option.some.inj H
           go_wp2_with (first | (go_at_call 25; (with_reducible refine (gantrylaw7_num.calls t317 t349 _ A76.out).mono ?_); rintro e w' ⟨rfl, ⟨nd, rfl⟩⟩; obtain ⟨Ao80, co80, eo80⟩ := Kd.R_slice HO_13.out; subst eo80; obtain ⟨Ao81, co81, eo81⟩ := Kd.R_slice HO_14.out; subst eo81) | ((with_reducible refine gate_callee (f := 90) rfl ?_); refine goesL_ (some 181) rfl rfl Try.func90 (by kernel_rfl) rfl #[.slice Ao80 t315.length co80] rfl (by (try simp only [List.map_toArray, List.map_cons, List.map_nil]); first | done | rfl | (simp only [List.length_drop, List.length_take]; rfl)) ?_; (with_reducible refine (gantrylaw0_Numbers.calls kj19 (fun k_ => some k_ = (.slice Ao80 t315.length co80 : Value).ownBlock) (.slice Ao80 t315.length co80) t315  w _ ?side1 ?side2 A78.out).mono ?_); (case side1 => repeat (first | (with_reducible first | exact HB.out | apply below_alloc | apply pw_below_drewN | apply below_drew1) | exact HB.out)); (case side2 => exact Kd.R_tight rfl HO_13.out); rintro e w82 ⟨rfl, hb, hkp⟩; refine ⟨_, rfl, ?_⟩; have n0_ := Aside0.mk (Kd.R_mono (ok' := fun k_ => some k_ ≠ (v337 : Value).ownBlock ∧ some k_ ≠ (v339 : Value).ownBlock) (Kd.R_keptB (HO_14.out) hkp (fun k_ hk_ hs_ => (hk_.1) hs_)) (fun k_ hk_ => ⟨hk_.1.2.1, hk_.1.2.2⟩)); have n1_ := Aside0.mk (Kd.R_mono (ok' := fun k_ => some k_ ≠ (.slice Ao81 t316.length co81 : Value).ownBlock ∧ some k_ ≠ (v339 : Value).ownBlock) (Kd.R_keptB (HO_19.out) hkp (fun k_ hk_ hs_ => (hk_.1) hs_)) (fun k_ hk_ => ⟨hk_.1.2.1, hk_.1.2.2⟩)); have n2_ := Aside0.mk (Kd.R_mono (ok' := fun k_ => some k_ ≠ (.slice Ao81 t316.length co81 : Value).ownBlock ∧ some k_ ≠ (v337 : Value).ownBlock) (Kd.R_keptB (HO_20.out) hkp (fun k_ hk_ hs_ => (hk_.1) hs_)) (fun k_ hk_ => ⟨hk_.1.2.1, hk_.1.2.2⟩)); have n3_ := Aside0.mk (hb); clear HO_14; clear HO_19; clear HO_20; clear HB; clear HO_13; have HO_14 := n0_; have HO_19 := n1_; have HO_20 := n2_; have HB := n3_; clear n0_ n1_ n2_ n3_; (try clear hb); (try clear hkp)) | ((with_reducible refine gate_callee (f := 90) rfl ?_); refine goesL_ (some 183) rfl rfl Try.func90 (by kernel_rfl) rfl #[.slice Ao81 t316.length co81] rfl (by (try simp only [List.map_toArray, List.map_cons, List.map_nil]); first | done | rfl | (simp only [List.length_drop, List.length_take]; rfl)) ?_; (with_reducible refine (gantrylaw0_Numbers.calls kj19 (fun k_ => some k_ = (.slice Ao81 t316.length co81 : Value).ownBlock) (.slice Ao81 t316.length co81) t316  w _ ?side1 ?side2 A79.out).mono ?_); (case side1 => repeat (first | (with_reducible first | exact HB.out | apply below_alloc | apply pw_below_drewN | apply below_drew1) | exact HB.out)); (case side2 => exact Kd.R_tight rfl HO_14.out); rintro e w83 ⟨rfl, hb, hkp⟩; refine ⟨_, rfl, ?_⟩; have n0_ := Aside0.mk (Kd.R_mono (ok' := fun k_ => some k_ ≠ (v339 : Value).ownBlock) (Kd.R_keptB (HO_19.out) hkp (fun k_ hk_ hs_ => (hk_.1) hs_)) (fun k_ hk_ => hk_.1.2)); have n1_ := Aside0.mk (Kd.R_mono (ok' := fun k_ => some k_ ≠ (v337 : Value).ownBlock) (Kd.R_keptB (HO_20.out) hkp (fun k_ hk_ hs_ => (hk_.1) hs_)) (fun k_ hk_ => hk_.1.2)); have n2_ := Aside0.mk (hb); clear HO_19; clear HO_20; clear HB; clear HO_14; have HO_19 := n0_; have HO_20 := n1_; have HB := n2_; clear n0_ n1_ n2_; (try clear hb); (try clear hkp)))
           go_ret
           exact ⟨by first | rfl | (simp [errW_none, errW_some] <;> rfl) | (simp [*, errW_none, errW_some] <;> rfl), by repeat (first | (with_reducible first | exact HB.out | apply below_alloc | apply pw_below_drewN | apply below_drew1) | exact HB.out)⟩
          ·rw [if_neg c77] at H
           have c77b0 : (t349 == 70) = false := beq_eq_false_iff_ne.mpr c77
           have c77b1 : (t349 != 70) = true := bne_iff_ne.mpr c77
           replace H := Option.bind_eq_some_iff.mp H
           obtain ⟨_, A840, H⟩ := H
           replace H : ((gantrylaw0_Numbers.f kj19 t316).bind fun _ => (some false)) = some r := H
           have A84 := Aside0.mk A840
           clear A840
           replace H := Option.bind_eq_some_iff.mp H
           obtain ⟨_, A850, H⟩ := H
           replace H : (some false) = some r := H
           have A85 := Aside0.mk A850
           clear A850
           obtain rfl := Option.some.inj H
           go_wp2_with (first | (go_at_call 25; (with_reducible refine (gantrylaw7_num.calls t317 t349 _ A76.out).mono ?_); rintro e w' ⟨rfl, ⟨nd, rfl⟩⟩; obtain ⟨Ao86, co86, eo86⟩ := Kd.R_slice HO_13.out; subst eo86) | ((with_reducible refine gate_callee (f := 90) rfl ?_); refine goesL_ (some 181) rfl rfl Try.func90 (by kernel_rfl) rfl #[.slice Ao86 t315.length co86] rfl (by (try simp only [List.map_toArray, List.map_cons, List.map_nil]); first | done | rfl | (simp only [List.length_drop, List.length_take]; rfl)) ?_; (with_reducible refine (gantrylaw0_Numbers.calls kj19 (fun k_ => some k_ = (.slice Ao86 t315.length co86 : Value).ownBlock) (.slice Ao86 t315.length co86) t315  w _ ?side1 ?side2 A84.out).mono ?_); (case side1 => repeat (first | (with_reducible first | exact HB.out | apply below_alloc | apply pw_below_drewN | apply below_drew1) | exact HB.out)); (case side2 => exact Kd.R_tight rfl HO_13.out); rintro e w87 ⟨rfl, hb, hkp⟩; refine ⟨_, rfl, ?_⟩; have n0_ := Aside0.mk (Kd.R_mono (ok' := fun k_ => some k_ ≠ (v337 : Value).ownBlock ∧ some k_ ≠ (v339 : Value).ownBlock) (Kd.R_keptB (HO_14.out) hkp (fun k_ hk_ hs_ => (hk_.1) hs_)) (fun k_ hk_ => ⟨hk_.1.2.1, hk_.1.2.2⟩)); have n1_ := Aside0.mk (Kd.R_mono (ok' := fun k_ => some k_ ≠ (v320 : Value).ownBlock ∧ some k_ ≠ (v339 : Value).ownBlock) (Kd.R_keptB (HO_19.out) hkp (fun k_ hk_ hs_ => (hk_.1) hs_)) (fun k_ hk_ => ⟨hk_.1.2.1, hk_.1.2.2⟩)); have n2_ := Aside0.mk (Kd.R_mono (ok' := fun k_ => some k_ ≠ (v320 : Value).ownBlock ∧ some k_ ≠ (v337 : Value).ownBlock) (Kd.R_keptB (HO_20.out) hkp (fun k_ hk_ hs_ => (hk_.1) hs_)) (fun k_ hk_ => ⟨hk_.1.2.1, hk_.1.2.2⟩)); have n3_ := Aside0.mk (hb); clear HO_14; clear HO_19; clear HO_20; clear HB; clear HO_13; have HO_14 := n0_; have HO_19 := n1_; have HO_20 := n2_; have HB := n3_; clear n0_ n1_ n2_ n3_; (try clear hb); (try clear hkp); obtain ⟨Ao88, co88, eo88⟩ := Kd.R_slice HO_14.out; subst eo88) | ((with_reducible refine gate_callee (f := 90) rfl ?_); refine goesL_ (some 183) rfl rfl Try.func90 (by kernel_rfl) rfl #[.slice Ao88 t316.length co88] rfl (by (try simp only [List.map_toArray, List.map_cons, List.map_nil]); first | done | rfl | (simp only [List.length_drop, List.length_take]; rfl)) ?_; (with_reducible refine (gantrylaw0_Numbers.calls kj19 (fun k_ => some k_ = (.slice Ao88 t316.length co88 : Value).ownBlock) (.slice Ao88 t316.length co88) t316  w _ ?side1 ?side2 A85.out).mono ?_); (case side1 => repeat (first | (with_reducible first | exact HB.out | apply below_alloc | apply pw_below_drewN | apply below_drew1) | exact HB.out)); (case side2 => exact Kd.R_tight rfl HO_14.out); rintro e w89 ⟨rfl, hb, hkp⟩; refine ⟨_, rfl, ?_⟩; have n0_ := Aside0.mk (Kd.R_mono (ok' := fun k_ => some k_ ≠ (v339 : Value).ownBlock) (Kd.R_keptB (HO_19.out) hkp (fun k_ hk_ hs_ => (hk_.1) hs_)) (fun k_ hk_ => hk_.1.2)); have n1_ := Aside0.mk (Kd.R_mono (ok' := fun k_ => some k_ ≠ (v337 : Value).ownBlock) (Kd.R_keptB (HO_20.out) hkp (fun k_ hk_ hs_ => (hk_.1) hs_)) (fun k_ hk_ => hk_.1.2)); have n2_ := Aside0.mk (hb); clear HO_19; clear HO_20; clear HB; clear HO_14; have HO_19 := n0_; have HO_20 := n1_; have HB := n2_; clear n0_ n1_ n2_; (try clear hb); (try clear hkp)))
           go_ret
           exact ⟨by first | rfl | (simp [errW_none, errW_some] <;> rfl) | (simp [*, errW_none, errW_some] <;> rfl), by repeat (first | (with_reducible first | exact HB.out | apply below_alloc | apply pw_below_drewN | apply below_drew1) | exact HB.out)⟩
     ·rw [if_neg c17] at H
      have c17b0 : (x2_14 == 0) = false := beq_eq_false_iff_ne.mpr c17
      have c17b1 : (x2_14 != 0) = true := bne_iff_ne.mpr c17
      replace H := Option.bind_eq_some_iff.mp H
      obtain ⟨t323, A900, H⟩ := H
      replace H : (if t323 = x2_14 then ((gantrylaw7_num.f t312).bind fun t324 => (if t324 = x2_14 then ((gantrylaw7_num.f t314).bind fun t325 => (if t325 = x2_14 then ((gantrylaw7_num.f t317).bind fun t326 => (if t326 = x2_14 then (if t309 = 0 then (if t311 = 0 then (if t313 = true then (some false) else (some ((wrap64 ((t315.length : Int) + (t316.length : Int))) == 0))) else (some false)) else (some false)) else (some false))) else (some false))) else (some false))) else (some false)) = some r := H
      have A90 := Aside0.mk A900
      clear A900
      by_cases c91 : t323 = x2_14
      ·rw [if_pos c91] at H
       have c91b0 : (t323 == x2_14) = true := beq_iff_eq.mpr c91
       have c91b1 : (t323 != x2_14) = false := bne_eq_false_iff_eq.mpr c91
       clear c91
       replace H := Option.bind_eq_some_iff.mp H
       obtain ⟨t324, A920, H⟩ := H
       replace H : (if t324 = x2_14 then ((gantrylaw7_num.f t314).bind fun t325 => (if t325 = x2_14 then ((gantrylaw7_num.f t317).bind fun t326 => (if t326 = x2_14 then (if t309 = 0 then (if t311 = 0 then (if t313 = true then (some false) else (some ((wrap64 ((t315.length : Int) + (t316.length : Int))) == 0))) else (some false)) else (some false)) else (some false))) else (some false))) else (some false)) = some r := H
       have A92 := Aside0.mk A920
       clear A920
       by_cases c93 : t324 = x2_14
       ·rw [if_pos c93] at H
        have c93b0 : (t324 == x2_14) = true := beq_iff_eq.mpr c93
        have c93b1 : (t324 != x2_14) = false := bne_eq_false_iff_eq.mpr c93
        clear c93
        replace H := Option.bind_eq_some_iff.mp H
        obtain ⟨t325, A940, H⟩ := H
        replace H : (if t325 = x2_14 then ((gantrylaw7_num.f t317).bind fun t326 => (if t326 = x2_14 then (if t309 = 0 then (if t311 = 0 then (if t313 = true then (some false) else (some ((wrap64 ((t315.length : Int) + (t316.length : Int))) == 0))) else (some false)) else (some false)) else (some false))) else (some false)) = some r := H
        have A94 := Aside0.mk A940
        clear A940
        by_cases c95 : t325 = x2_14
        ·rw [if_pos c95] at H
         have c95b0 : (t325 == x2_14) = true := beq_iff_eq.mpr c95
         have c95b1 : (t325 != x2_14) = false := bne_eq_false_iff_eq.mpr c95
         clear c95
         replace H := Option.bind_eq_some_iff.mp H
         obtain ⟨t326, A960, H⟩ := H
         replace H : (if t326 = x2_14 then (if t309 = 0 then (if t311 = 0 then (if t313 = true then (some false) else (some ((wrap64 ((t315.length : Int) + (t316.length : Int))) == 0))) else (some false)) else (some false)) else (some false)) = some r := H
         have A96 := Aside0.mk A960
         clear A960
         by_cases c97 : t326 = x2_14
         ·rw [if_pos c97] at H
          have c97b0 : (t326 == x2_14) = true := beq_iff_eq.mpr c97
          have c97b1 : (t326 != x2_14) = false := bne_eq_false_iff_eq.mpr c97
          clear c97
          by_cases c98 : t309 = 0
          ·rw [if_pos c98] at H
           have c98b0 : (t309 == 0) = true := beq_iff_eq.mpr c98
           have c98b1 : (t309 != 0) = false := bne_eq_false_iff_eq.mpr c98
           clear c98
           by_cases c99 : t311 = 0
           ·rw [if_pos c99] at H
            have c99b0 : (t311 == 0) = true := beq_iff_eq.mpr c99
            have c99b1 : (t311 != 0) = false := bne_eq_false_iff_eq.mpr c99
            clear c99
            by_cases c100 : t313 = true
            ·subst c100
             have H1 : (some false) = some r := by rw [if_pos rfl] at H; exact H
             clear H
             have H := H1
             clear H1
             obtain rfl := Option.some.inj H
             go_wp2_with (first | ((with_reducible refine gate_callee (f := 25) rfl ?_); refine goesL_ (some 59) rfl rfl Try.func25 (by kernel_rfl) rfl #[.int .i64 t310] rfl (by (try simp only [List.map_toArray, List.map_cons, List.map_nil]); first | done | rfl | (simp only [List.length_drop, List.length_take]; rfl)) ?_; (with_reducible refine (gantrylaw7_num.calls t310 t323 _ A90.out).mono ?_); rintro e w' ⟨rfl, ⟨nd, rfl⟩⟩; refine ⟨_, rfl, ?_⟩) | (go_at_call 25; (with_reducible refine (gantrylaw7_num.calls t312 t324 _ A92.out).mono ?_); rintro e w' ⟨rfl, ⟨nd, rfl⟩⟩) | (go_at_call 25; (with_reducible refine (gantrylaw7_num.calls t314 t325 _ A94.out).mono ?_); rintro e w' ⟨rfl, ⟨nd, rfl⟩⟩) | (go_at_call 25; (with_reducible refine (gantrylaw7_num.calls t317 t326 _ A96.out).mono ?_); rintro e w' ⟨rfl, ⟨nd, rfl⟩⟩))
             go_ret
             exact ⟨by first | rfl | (simp [errW_none, errW_some] <;> rfl) | (simp [*, errW_none, errW_some] <;> rfl), by repeat (first | (with_reducible first | exact HB.out | apply below_alloc | apply pw_below_drewN | apply below_drew1) | exact HB.out)⟩
            ·replace c100 := Bool.eq_false_iff.mpr c100
             subst c100
             have H1 : (some ((wrap64 ((t315.length : Int) + (t316.length : Int))) == 0)) = some r := by rw [if_neg (show ¬ (false = true) by decide)] at H; exact H
             clear H
             have H := H1
             clear H1
             obtain rfl := Option.some.inj H
             go_wp2_with (first | ((with_reducible refine gate_callee (f := 25) rfl ?_); refine goesL_ (some 59) rfl rfl Try.func25 (by kernel_rfl) rfl #[.int .i64 t310] rfl (by (try simp only [List.map_toArray, List.map_cons, List.map_nil]); first | done | rfl | (simp only [List.length_drop, List.length_take]; rfl)) ?_; (with_reducible refine (gantrylaw7_num.calls t310 t323 _ A90.out).mono ?_); rintro e w' ⟨rfl, ⟨nd, rfl⟩⟩; refine ⟨_, rfl, ?_⟩) | (go_at_call 25; (with_reducible refine (gantrylaw7_num.calls t312 t324 _ A92.out).mono ?_); rintro e w' ⟨rfl, ⟨nd, rfl⟩⟩) | (go_at_call 25; (with_reducible refine (gantrylaw7_num.calls t314 t325 _ A94.out).mono ?_); rintro e w' ⟨rfl, ⟨nd, rfl⟩⟩) | (go_at_call 25; (with_reducible refine (gantrylaw7_num.calls t317 t326 _ A96.out).mono ?_); rintro e w' ⟨rfl, ⟨nd, rfl⟩⟩; obtain ⟨Ao101, co101, eo101⟩ := Kd.R_slice HO_13.out; subst eo101; obtain ⟨Ao102, co102, eo102⟩ := Kd.R_slice HO_14.out; subst eo102))
             go_ret
             exact ⟨by first | rfl | (simp [errW_none, errW_some] <;> rfl) | (simp [*, errW_none, errW_some] <;> rfl), by repeat (first | (with_reducible first | exact HB.out | apply below_alloc | apply pw_below_drewN | apply below_drew1) | exact HB.out)⟩
           ·rw [if_neg c99] at H
            have c99b0 : (t311 == 0) = false := beq_eq_false_iff_ne.mpr c99
            have c99b1 : (t311 != 0) = true := bne_iff_ne.mpr c99
            obtain rfl := Option.some.inj H
            go_wp2_with (first | ((with_reducible refine gate_callee (f := 25) rfl ?_); refine goesL_ (some 59) rfl rfl Try.func25 (by kernel_rfl) rfl #[.int .i64 t310] rfl (by (try simp only [List.map_toArray, List.map_cons, List.map_nil]); first | done | rfl | (simp only [List.length_drop, List.length_take]; rfl)) ?_; (with_reducible refine (gantrylaw7_num.calls t310 t323 _ A90.out).mono ?_); rintro e w' ⟨rfl, ⟨nd, rfl⟩⟩; refine ⟨_, rfl, ?_⟩) | (go_at_call 25; (with_reducible refine (gantrylaw7_num.calls t312 t324 _ A92.out).mono ?_); rintro e w' ⟨rfl, ⟨nd, rfl⟩⟩) | (go_at_call 25; (with_reducible refine (gantrylaw7_num.calls t314 t325 _ A94.out).mono ?_); rintro e w' ⟨rfl, ⟨nd, rfl⟩⟩) | (go_at_call 25; (with_reducible refine (gantrylaw7_num.calls t317 t326 _ A96.out).mono ?_); rintro e w' ⟨rfl, ⟨nd, rfl⟩⟩))
            go_ret
            exact ⟨by first | rfl | (simp [errW_none, errW_some] <;> rfl) | (simp [*, errW_none, errW_some] <;> rfl), by repeat (first | (with_reducible first | exact HB.out | apply below_alloc | apply pw_below_drewN | apply below_drew1) | exact HB.out)⟩
          ·rw [if_neg c98] at H
           have c98b0 : (t309 == 0) = false := beq_eq_false_iff_ne.mpr c98
           have c98b1 : (t309 != 0) = true := bne_iff_ne.mpr c98
           obtain rfl := Option.some.inj H
           go_wp2_with (first | ((with_reducible refine gate_callee (f := 25) rfl ?_); refine goesL_ (some 59) rfl rfl Try.func25 (by kernel_rfl) rfl #[.int .i64 t310] rfl (by (try simp only [List.map_toArray, List.map_cons, List.map_nil]); first | done | rfl | (simp only [List.length_drop, List.length_take]; rfl)) ?_; (with_reducible refine (gantrylaw7_num.calls t310 t323 _ A90.out).mono ?_); rintro e w' ⟨rfl, ⟨nd, rfl⟩⟩; refine ⟨_, rfl, ?_⟩) | (go_at_call 25; (with_reducible refine (gantrylaw7_num.calls t312 t324 _ A92.out).mono ?_); rintro e w' ⟨rfl, ⟨nd, rfl⟩⟩) | (go_at_call 25; (with_reducible refine (gantrylaw7_num.calls t314 t325 _ A94.out).mono ?_); rintro e w' ⟨rfl, ⟨nd, rfl⟩⟩) | (go_at_call 25; (with_reducible refine (gantrylaw7_num.calls t317 t326 _ A96.out).mono ?_); rintro e w' ⟨rfl, ⟨nd, rfl⟩⟩))
           go_ret
           exact ⟨by first | rfl | (simp [errW_none, errW_some] <;> rfl) | (simp [*, errW_none, errW_some] <;> rfl), by repeat (first | (with_reducible first | exact HB.out | apply below_alloc | apply pw_below_drewN | apply below_drew1) | exact HB.out)⟩
         ·rw [if_neg c97] at H
          have c97b0 : (t326 == x2_14) = false := beq_eq_false_iff_ne.mpr c97
          have c97b1 : (t326 != x2_14) = true := bne_iff_ne.mpr c97
          obtain rfl := Option.some.inj H
          go_wp2_with (first | ((with_reducible refine gate_callee (f := 25) rfl ?_); refine goesL_ (some 59) rfl rfl Try.func25 (by kernel_rfl) rfl #[.int .i64 t310] rfl (by (try simp only [List.map_toArray, List.map_cons, List.map_nil]); first | done | rfl | (simp only [List.length_drop, List.length_take]; rfl)) ?_; (with_reducible refine (gantrylaw7_num.calls t310 t323 _ A90.out).mono ?_); rintro e w' ⟨rfl, ⟨nd, rfl⟩⟩; refine ⟨_, rfl, ?_⟩) | (go_at_call 25; (with_reducible refine (gantrylaw7_num.calls t312 t324 _ A92.out).mono ?_); rintro e w' ⟨rfl, ⟨nd, rfl⟩⟩) | (go_at_call 25; (with_reducible refine (gantrylaw7_num.calls t314 t325 _ A94.out).mono ?_); rintro e w' ⟨rfl, ⟨nd, rfl⟩⟩) | (go_at_call 25; (with_reducible refine (gantrylaw7_num.calls t317 t326 _ A96.out).mono ?_); rintro e w' ⟨rfl, ⟨nd, rfl⟩⟩))
          go_ret
          exact ⟨by first | rfl | (simp [errW_none, errW_some] <;> rfl) | (simp [*, errW_none, errW_some] <;> rfl), by repeat (first | (with_reducible first | exact HB.out | apply below_alloc | apply pw_below_drewN | apply below_drew1) | exact HB.out)⟩
        ·rw [if_neg c95] at H
         have c95b0 : (t325 == x2_14) = false := beq_eq_false_iff_ne.mpr c95
         have c95b1 : (t325 != x2_14) = true := bne_iff_ne.mpr c95
         obtain rfl := Option.some.inj H
         go_wp2_with (first | ((with_reducible refine gate_callee (f := 25) rfl ?_); refine goesL_ (some 59) rfl rfl Try.func25 (by kernel_rfl) rfl #[.int .i64 t310] rfl (by (try simp only [List.map_toArray, List.map_cons, List.map_nil]); first | done | rfl | (simp only [List.length_drop, List.length_take]; rfl)) ?_; (with_reducible refine (gantrylaw7_num.calls t310 t323 _ A90.out).mono ?_); rintro e w' ⟨rfl, ⟨nd, rfl⟩⟩; refine ⟨_, rfl, ?_⟩) | (go_at_call 25; (with_reducible refine (gantrylaw7_num.calls t312 t324 _ A92.out).mono ?_); rintro e w' ⟨rfl, ⟨nd, rfl⟩⟩) | (go_at_call 25; (with_reducible refine (gantrylaw7_num.calls t314 t325 _ A94.out).mono ?_); rintro e w' ⟨rfl, ⟨nd, rfl⟩⟩))
         go_ret
         exact ⟨by first | rfl | (simp [errW_none, errW_some] <;> rfl) | (simp [*, errW_none, errW_some] <;> rfl), by repeat (first | (with_reducible first | exact HB.out | apply below_alloc | apply pw_below_drewN | apply below_drew1) | exact HB.out)⟩
       ·rw [if_neg c93] at H
        have c93b0 : (t324 == x2_14) = false := beq_eq_false_iff_ne.mpr c93
        have c93b1 : (t324 != x2_14) = true := bne_iff_ne.mpr c93
        obtain rfl := Option.some.inj H
        go_wp2_with (first | ((with_reducible refine gate_callee (f := 25) rfl ?_); refine goesL_ (some 59) rfl rfl Try.func25 (by kernel_rfl) rfl #[.int .i64 t310] rfl (by (try simp only [List.map_toArray, List.map_cons, List.map_nil]); first | done | rfl | (simp only [List.length_drop, List.length_take]; rfl)) ?_; (with_reducible refine (gantrylaw7_num.calls t310 t323 _ A90.out).mono ?_); rintro e w' ⟨rfl, ⟨nd, rfl⟩⟩; refine ⟨_, rfl, ?_⟩) | (go_at_call 25; (with_reducible refine (gantrylaw7_num.calls t312 t324 _ A92.out).mono ?_); rintro e w' ⟨rfl, ⟨nd, rfl⟩⟩))
        go_ret
        exact ⟨by first | rfl | (simp [errW_none, errW_some] <;> rfl) | (simp [*, errW_none, errW_some] <;> rfl), by repeat (first | (with_reducible first | exact HB.out | apply below_alloc | apply pw_below_drewN | apply below_drew1) | exact HB.out)⟩
      ·rw [if_neg c91] at H
       have c91b0 : (t323 == x2_14) = false := beq_eq_false_iff_ne.mpr c91
       have c91b1 : (t323 != x2_14) = true := bne_iff_ne.mpr c91
       obtain rfl := Option.some.inj H
       go_wp2_with (first | ((with_reducible refine gate_callee (f := 25) rfl ?_); refine goesL_ (some 59) rfl rfl Try.func25 (by kernel_rfl) rfl #[.int .i64 t310] rfl (by (try simp only [List.map_toArray, List.map_cons, List.map_nil]); first | done | rfl | (simp only [List.length_drop, List.length_take]; rfl)) ?_; (with_reducible refine (gantrylaw7_num.calls t310 t323 _ A90.out).mono ?_); rintro e w' ⟨rfl, ⟨nd, rfl⟩⟩; refine ⟨_, rfl, ?_⟩))
       go_ret
       exact ⟨by first | rfl | (simp [errW_none, errW_some] <;> rfl) | (simp [*, errW_none, errW_some] <;> rfl), by repeat (first | (with_reducible first | exact HB.out | apply below_alloc | apply pw_below_drewN | apply below_drew1) | exact HB.out)⟩

end Go.Proofs.Ytekoogedhmhpgaa.Q

