-- PRINTED by print.py (a twelfth state) out of the translation. Not trusted: Lean checks it.
import Derived.Test.YtekoogedhmhpgaaQx0E3
import Derived.Test.YtekoogedhmhpgaaQx8E3
namespace Go.Proofs.Ytekoogedhmhpgaa.Q
open Go.RowKit Go.Proofs.YtekoogedhmhpgaaW.PrintWords Go.Proofs.YtekoogedhmhpgaaW.PrintLast Go.Proofs.YtekoogedhmhpgaaW.PrintMore
attribute [local go_sem] max2_int min2_int max_two min_two max_three min_three max_four min_four   -- for this text's walks alone
set_option linter.unusedVariables false
set_option linter.unusedSimpArgs false

def gantryref7_laid.l0 : Nat → List (S124) → List Int → List Int → Int → Option (List Int × List Int)
 | 0, _, _, _, _ => none
 | k + 1, x0, x4, x5, x6 => if x6 < (x0.length : Int) then (if 0 ≤ x6 then ((gantryref7_lay.f k ((rd_T124 x0 x6).f0) ((rd_T124 x0 x6).f1) ((rd_T124 x0 x6).f2) ((rd_T124 x0 x6).f3) x4 x5).bind fun bt252 => (if x4.length < 17592186044416 then (if x5.length < 17592186044416 then (gantryref7_laid.l0 k x0 (x4 ++ [bt252.1]) (x5 ++ [bt252.2]) (wrap64 (x6 + 1))) else (none)) else (none))) else (none)) else (some (x4, x5))
def gantryref7_laid.f (k : Nat) (l0 : List (S124)) : Option (List Int × List Int) := gantryref7_laid.l0 k l0 ([] : List Int) ([] : List Int) 0
set_option maxHeartbeats 8000000 in
set_option maxRecDepth 100000 in
theorem gantryref7_laid.calls (k : Nat) (A0 : Option Addr) (c0 : Nat) (l0 : List (S124)) (r1 : List Int) (r2 : List Int) (w : World) (hr0 : Kd.C k124 w A0 l0.length l0) (hc0 : l0.length ≤ c0) (h : gantryref7_laid.f k l0 = some (r1, r2)) :
  Calls Try.prog 126 #[.slice A0 l0.length c0] w fun e w' => ∃ v0_ v1_ : Value, e = .returned (.tuple #[v0_, v1_]) ∧ Kd.R (Kd.int .i64) 3 w' w.heap.size (fun k_ => some k_ ≠ (v1_ : Value).ownBlock) v0_ r1 ∧ Kd.R (Kd.int .i64) 3 w' w.heap.size (fun k_ => some k_ ≠ (v0_ : Value).ownBlock) v1_ r2 ∧ Below w.heap.size w w' := by
 have hu124 := Try.underlying124
 have HR0 := Aside0.mk hr0
 have HC0 := Aside0.mk hc0
 clear hr0 hc0
 have HB := Aside0.mk (Below.refl w.heap.size w)
 have H : (gantryref7_laid.l0 k l0 ([] : List Int) ([] : List Int) 0) = some (r1, r2) := h
 clear h
 have H' := Aside0.mk H
 clear H
 go_enter Try.func126, Try.ntmps126
 go_wp2
 go_loopg [4, 5, 6] k (fun kq v4 v5 v6 w' => ∃ (x4_1 : List Int) (x5_1 : List Int) (x6_1 : Int), v6 = .int .i64 x6_1 ∧ Aside0 (gantryref7_laid.l0 kq l0 x4_1 x5_1 x6_1 = some (r1, r2)) ∧ Aside0 (kq ≤ k) ∧ Aside0 (Kd.R (Kd.int .i64) 3 w' w.heap.size (fun k_ => some k_ ≠ (v5 : Value).ownBlock) v4 x4_1) ∧ Aside0 (Kd.R (Kd.int .i64) 3 w' w.heap.size (fun k_ => some k_ ≠ (v4 : Value).ownBlock) v5 x5_1) ∧ Aside0 (Below w.heap.size w w'))
 case atStart => exact ⟨(([] : List Int)), (([] : List Int)), (0), (by first | rfl | (simp; done) | (simp [*]; done)), H', ⟨Nat.le_refl _⟩, ⟨by first | exact Kd.R_nil _ _ _ _ _ | exact Kd.N_nil _ _ _ _ _ | exact Kd.V_nil _ _ _ _ _ | exact Kd.Q_nil _ _ _ _ _ | exact Kd.S_nil _ _ _ _ _⟩, ⟨by first | exact Kd.R_nil _ _ _ _ _ | exact Kd.N_nil _ _ _ _ _ | exact Kd.V_nil _ _ _ _ _ | exact Kd.Q_nil _ _ _ _ _ | exact Kd.S_nil _ _ _ _ _⟩, ⟨by repeat (first | (with_reducible first | exact HB.out | apply below_alloc | apply pw_below_drewN | apply below_drew1) | exact HB.out)⟩⟩
 case round =>
  clear H'
  try clear c1
  obtain ⟨x4_1, x5_1, x6_1, rfl, HA, HK1, HO_4, HO_5, HB⟩ := hrel
  cases gk with
  | zero => exact absurd HA.out (by simp [gantryref7_laid.l0])
  | succ k1 =>
   have H := HA.out
   clear HA
   simp only [gantryref7_laid.l0] at H
   by_cases c2 : x6_1 < (l0.length : Int)
   ·rw [if_pos c2] at H
    have c2b0 : decide (x6_1 < (l0.length : Int)) = true := decide_eq_true c2
    clear c2
    by_cases c3 : 0 ≤ x6_1
    ·rw [if_pos c3] at H
     have c3b0 : decide (0 ≤ x6_1) = true := decide_eq_true c3
     clear c3
     replace H := Option.bind_eq_some_iff.mp H
     obtain ⟨⟨t252, t253⟩, A40, H⟩ := H
     replace H : (if x4_1.length < 17592186044416 then (if x5_1.length < 17592186044416 then (gantryref7_laid.l0 k1 l0 (x4_1 ++ [t252]) (x5_1 ++ [t253]) (wrap64 (x6_1 + 1))) else (none)) else (none)) = some (r1, r2) := H
     have A4 := Aside0.mk A40
     clear A40
     by_cases c5 : x4_1.length < 17592186044416
     ·rw [if_pos c5] at H
      have LMc5 := Aside0.mk c5
      clear c5
      obtain ⟨y254, hy254⟩ : ∃ y_ : List Int, y_ = (x4_1 ++ [t252]) := ⟨_, rfl⟩
      replace H : (if x5_1.length < 17592186044416 then (gantryref7_laid.l0 k1 l0 y254 (x5_1 ++ [t253]) (wrap64 (x6_1 + 1))) else (none)) = some (r1, r2) := by first | (rw [hy254]; with_reducible exact H) | (have H2_ := (Option.bind_some _ _).symm.trans H; rw [hy254]; with_reducible exact H2_) | (have H2_ := (Option.bind_some _ _).symm.trans H; with_reducible exact H2_) | with_reducible exact H | (rw [hy254]; exact H) | exact H
      have Ny254 := Aside0.mk hy254
      clear hy254
      by_cases c6 : x5_1.length < 17592186044416
      ·rw [if_pos c6] at H
       have LMc6 := Aside0.mk c6
       clear c6
       obtain ⟨y257, hy257⟩ : ∃ y_ : List Int, y_ = (x5_1 ++ [t253]) := ⟨_, rfl⟩
       replace H : (gantryref7_laid.l0 k1 l0 y254 y257 (wrap64 (x6_1 + 1))) = some (r1, r2) := by first | (rw [hy257]; with_reducible exact H) | (have H2_ := (Option.bind_some _ _).symm.trans H; rw [hy257]; with_reducible exact H2_) | (have H2_ := (Option.bind_some _ _).symm.trans H; with_reducible exact H2_) | with_reducible exact H | (rw [hy257]; exact H) | exact H
       have Ny257 := Aside0.mk hy257
       clear hy257
       have H' := Aside0.mk H
       clear H
       have p251 : 0 ≤ (x6_1 : Int) := of_decide_eq_true (by first | (with_reducible assumption) | assumption)
       have q251 : x6_1 < (l0.length : Int) := of_decide_eq_true (by first | (with_reducible assumption) | assumption)
       obtain ⟨ad251, A251_3, c251_3, e251, hx251_0, hx251_1, hx251_2, hx251_3, hl251_3, hi251_3⟩ := at_T124 HR0.out x6_1 p251 q251
       cases e251
       replace hx251_0 := (HB.out.cell (World.block_lt_of_cell? w _ hx251_0)).trans hx251_0
       replace hx251_1 := (HB.out.cell (World.block_lt_of_cell? w _ hx251_1)).trans hx251_1
       replace hx251_2 := (HB.out.cell (World.block_lt_of_cell? w _ hx251_2)).trans hx251_2
       replace hx251_3 := (HB.out.cell (World.block_lt_of_cell? w _ hx251_3)).trans hx251_3
       have HR251_3 := Aside0.mk hi251_3
       have HC251_3 := Aside0.mk hl251_3
       clear hi251_3 hl251_3
       replace p251 := eq_true p251
       replace q251 := eq_true q251
       obtain ⟨Ao7, co7, eo7⟩ := Kd.R_slice HO_4.out
       subst eo7
       obtain ⟨Ao8, co8, eo8⟩ := Kd.R_slice HO_5.out
       subst eo8
       go_wp2_with (first | ((with_reducible refine gate_callee (f := 124) rfl ?_); refine goesL_ (some 22) rfl rfl Try.func124 (by kernel_rfl) rfl #[.agg #[.int .i64 ((rd_T124 l0 x6_1).f0), .int .i64 ((rd_T124 l0 x6_1).f1), .int .i64 ((rd_T124 l0 x6_1).f2), .slice A251_3 ((rd_T124 l0 x6_1).f3).length c251_3], .slice Ao7 x4_1.length co7, .slice Ao8 x5_1.length co8] rfl (by (try simp only [List.map_toArray, List.map_cons, List.map_nil]); first | done | rfl | (simp only [List.length_drop, List.length_take]; rfl)) ?_; (with_reducible refine (gantryref7_lay.calls k1 ((rd_T124 l0 x6_1).f0) ((rd_T124 l0 x6_1).f1) ((rd_T124 l0 x6_1).f2) _ _ ((rd_T124 l0 x6_1).f3) _ _ x4_1 _ _ x5_1 t252 t253 _ ?side1 ?side2 ?side3 ?side4 ?side5 ?side6 A4.out).mono ?_); (case side1 => repeat (first | exact (Kd.C_below HR251_3.out HB.out) | (with_reducible refine Kd.C_alloc ?_ _) | (with_reducible refine Kd.C_drewN ?_ _) | (with_reducible refine Kd.C_drew ?_))); (case side2 => exact HC251_3.out); (case side3 => repeat (first | exact (Kd.R_reads' HO_4.out).2.2 | (with_reducible refine Kd.C_alloc ?_ _) | (with_reducible refine Kd.C_drewN ?_ _) | (with_reducible refine Kd.C_drew ?_))); (case side4 => exact (Kd.R_reads' HO_4.out).2.1); (case side5 => repeat (first | exact (Kd.R_reads' HO_5.out).2.2 | (with_reducible refine Kd.C_alloc ?_ _) | (with_reducible refine Kd.C_drewN ?_ _) | (with_reducible refine Kd.C_drew ?_))); (case side6 => exact (Kd.R_reads' HO_5.out).2.1); rintro e w9 ⟨rfl, hb⟩; refine ⟨_, rfl, ?_⟩; have n0_ := Aside0.mk (Kd.R_below (by (with_reducible repeat (first | apply Kd.R_alloc | apply Kd.R_drewN | apply Kd.R_drew)); exact HO_4.out) hb); have n1_ := Aside0.mk (Kd.R_below (by (with_reducible repeat (first | apply Kd.R_alloc | apply Kd.R_drewN | apply Kd.R_drew)); exact HO_5.out) hb); have n2_ := Aside0.mk (below_step (by repeat (first | (with_reducible first | exact HB.out | apply below_alloc | apply pw_below_drewN | apply below_drew1) | exact HB.out)) hb); clear HO_4; clear HO_5; clear HB; have HO_4 := n0_; have HO_5 := n1_; have HB := n2_; clear n0_ n1_ n2_; (try clear hb); (try clear hb2); (try clear hk); (try clear hi)) | ((with_reducible refine gate_builtin (b := .append) (xs := #[.tmp 25, .tmp 27]) rfl ?_); at_builtin; refine Kd.R_append (Kd.int .i64) (w0 := w) w.heap.size rfl (.tmp 25) (.tmp 27) 55 3 (.int .i64 0) 8 rfl Try.underlying55 info3 rfl (by decide) (by omega) (.slice Ao7 x4_1.length co7) x4_1 t252 [.int .i64 t252] (fun k_ => some k_ ≠ (.slice Ao8 x5_1.length co8 : Value).ownBlock) (fun _ => False) rfl rfl ?aP (fun _ hk => hk.elim) ?aF ?aO ?aB ?aS ?aL ?_; (case aP => exact rfl); (case aB => exact (by repeat (first | (with_reducible first | exact HB.out | apply below_alloc | apply pw_below_drewN | apply below_drew1) | exact HB.out))); (case aF => exact (fun k_ hk => Kd.fresh' (Kd.R_lt (by (with_reducible repeat (first | apply Kd.R_alloc | apply Kd.R_drewN | apply Kd.R_drew)); exact HO_5.out)) k_ hk)); (case aO => exact (by (with_reducible repeat (first | apply Kd.R_alloc | apply Kd.R_drewN | apply Kd.R_drew)); exact HO_4.out)); (case aS => exact (below_size (by repeat (first | (with_reducible first | exact HB.out | apply below_alloc | apply pw_below_drewN | apply below_drew1) | exact HB.out)))); (case aL => have := LMc5.out; omega); intro v255 w10 ho hb hg hat; rw [← Ny254.out] at ho; have n0_ := Aside0.mk (Kd.R_after (ok := (fun _ => True)) (by (with_reducible repeat (first | apply Kd.R_alloc | apply Kd.R_drewN | apply Kd.R_drew)); exact Kd.R_mono HO_5.out (fun _ hk => ⟨trivial, hk⟩)) hg hat); have n1_ := Aside0.mk (hb); have n2_ := Aside0.mk (ho); clear HO_5; clear HB; clear HO_4; have HO_5 := n0_; have HB := n1_; have HO256 := n2_; clear n0_ n1_ n2_; clear ho hb hg hat) | ((with_reducible refine gate_builtin (b := .append) (xs := #[.tmp 29, .tmp 31]) rfl ?_); at_builtin; refine Kd.R_append (Kd.int .i64) (w0 := w) w.heap.size rfl (.tmp 29) (.tmp 31) 55 3 (.int .i64 0) 8 rfl Try.underlying55 info3 rfl (by decide) (by omega) (.slice Ao8 x5_1.length co8) x5_1 t253 [.int .i64 t253] (fun k_ => some k_ ≠ (v255 : Value).ownBlock) (fun _ => False) rfl rfl ?aP (fun _ hk => hk.elim) ?aF ?aO ?aB ?aS ?aL ?_; (case aP => exact rfl); (case aB => exact (by repeat (first | (with_reducible first | exact HB.out | apply below_alloc | apply pw_below_drewN | apply below_drew1) | exact HB.out))); (case aF => exact (fun k_ hk => Kd.fresh' (Kd.R_lt (by (with_reducible repeat (first | apply Kd.R_alloc | apply Kd.R_drewN | apply Kd.R_drew)); exact HO256.out)) k_ hk)); (case aO => exact (by (with_reducible repeat (first | apply Kd.R_alloc | apply Kd.R_drewN | apply Kd.R_drew)); exact Kd.R_mono HO_5.out (fun _ hk => hk.2))); (case aS => exact (below_size (by repeat (first | (with_reducible first | exact HB.out | apply below_alloc | apply pw_below_drewN | apply below_drew1) | exact HB.out)))); (case aL => have := LMc6.out; omega); intro v258 w11 ho hb hg hat; rw [← Ny257.out] at ho; have n0_ := Aside0.mk (Kd.R_after (ok := (fun _ => True)) (by (with_reducible repeat (first | apply Kd.R_alloc | apply Kd.R_drewN | apply Kd.R_drew)); exact Kd.R_mono HO256.out (fun _ hk => ⟨trivial, hk⟩)) hg hat); have n1_ := Aside0.mk (hb); have n2_ := Aside0.mk (ho); clear HO256; clear HB; clear HO_5; have HO256 := n0_; have HB := n1_; have HO259 := n2_; clear n0_ n1_ n2_; clear ho hb hg hat))
       go_roundg k1
       case measure => have := HK1.out; omega
       case rel => exact ⟨(y254), (y257), (wrap64 (x6_1 + 1)), (by first | rfl | (simp; done) | (simp [*]; done)), H', ⟨by have := HK1.out; omega⟩, ⟨by (with_reducible repeat (first | apply Kd.R_alloc | apply Kd.R_drewN | apply Kd.R_drew)); exact Kd.R_mono HO256.out (fun _ hk => hk.2)⟩, ⟨by (with_reducible repeat (first | apply Kd.R_alloc | apply Kd.R_drewN | apply Kd.R_drew)); exact HO259.out⟩, ⟨by repeat (first | (with_reducible first | exact HB.out | apply below_alloc | apply pw_below_drewN | apply below_drew1) | exact HB.out)⟩⟩
      ·rw [if_neg c6] at H
       exact absurd H (by simp)
     ·rw [if_neg c5] at H
      exact absurd H (by simp)
    ·rw [if_neg c3] at H
     exact absurd H (by simp)
   ·rw [if_neg c2] at H
    have c2b0 : decide (x6_1 < (l0.length : Int)) = false := decide_eq_false c2
    clear c2
    simp only [Option.some.injEq, Prod.mk.injEq] at H
    obtain ⟨rfl, rfl⟩ := H
    go_wp2
    go_ret2
    exact ⟨_, _, by first | rfl | (simp [errW_none, errW_some] <;> rfl) | (simp [*, errW_none, errW_some] <;> rfl), by (with_reducible repeat (first | apply Kd.R_alloc | apply Kd.R_drewN | apply Kd.R_drew)); exact HO_4.out, by (with_reducible repeat (first | apply Kd.R_alloc | apply Kd.R_drewN | apply Kd.R_drew)); exact HO_5.out, by repeat (first | (with_reducible first | exact HB.out | apply below_alloc | apply pw_below_drewN | apply below_drew1) | exact HB.out)⟩

def gantryref7_Offset.l0 : Nat → List (S124) → Int → Int → List Int → List Int → Int → Int → Option (Int)
 | 0, _, _, _, _, _, _, _ => none
 | k + 1, x0, x1, x2, x7, x8, x9, x10 => if x10 ≤ x2 then (if 0 ≤ x1 then (if x1 < (x0.length : Int) then (if 0 ≤ x10 then (if x10 < (((rd_T124 x0 x1).f3).length : Int) then (if 0 ≤ (rd ((rd_T124 x0 x1).f3) x10) then (if (rd ((rd_T124 x0 x1).f3) x10) < (x8.length : Int) then (if (rd x8 (rd ((rd_T124 x0 x1).f3) x10)) = 0 then (none) else (if x10 < x2 then (if (rd ((rd_T124 x0 x1).f3) x10) < (x7.length : Int) then (gantryref7_Offset.l0 k x0 x1 x2 x7 x8 (wrap64 ((wrap64 ((wrap64 (Int.tdiv (wrap64 ((wrap64 (x9 + (rd x8 (rd ((rd_T124 x0 x1).f3) x10)))) - 1)) (rd x8 (rd ((rd_T124 x0 x1).f3) x10)))) * (rd x8 (rd ((rd_T124 x0 x1).f3) x10)))) + (rd x7 (rd ((rd_T124 x0 x1).f3) x10)))) (wrap64 (x10 + 1))) else (none)) else (gantryref7_Offset.l0 k x0 x1 x2 x7 x8 (wrap64 ((wrap64 (Int.tdiv (wrap64 ((wrap64 (x9 + (rd x8 (rd ((rd_T124 x0 x1).f3) x10)))) - 1)) (rd x8 (rd ((rd_T124 x0 x1).f3) x10)))) * (rd x8 (rd ((rd_T124 x0 x1).f3) x10)))) (wrap64 (x10 + 1))))) else (none)) else (none)) else (none)) else (none)) else (none)) else (none)) else (some x9)
def gantryref7_Offset.f (k : Nat) (l0 : List (S124)) (a1 : Int) (a2 : Int) : Option (Int) := if 0 ≤ a1 then (if a1 ≤ (l0.length : Int) then ((gantryref7_laid.f k (l0.take (a1 : Int).toNat)).bind fun bt264 => (gantryref7_Offset.l0 k l0 a1 a2 bt264.1 bt264.2 0 0)) else (none)) else (none)
set_option maxHeartbeats 8000000 in
set_option maxRecDepth 100000 in
theorem gantryref7_Offset.calls (k : Nat) (A0 : Option Addr) (c0 : Nat) (l0 : List (S124)) (a1 : Int) (a2 : Int) (r : Int) (w : World) (hr0 : Kd.C k124 w A0 l0.length l0) (hc0 : l0.length ≤ c0) (h : gantryref7_Offset.f k l0 a1 a2 = some r) :
  Calls Try.prog 91 #[.slice A0 l0.length c0, .int .i64 a1, .int .i64 a2] w fun e w' => e = .returned (.int .i64 r) ∧ Below w.heap.size w w' := by
 have HR0 := Aside0.mk hr0
 have HC0 := Aside0.mk hc0
 clear hr0 hc0
 have HB := Aside0.mk (Below.refl w.heap.size w)
 have H : (if 0 ≤ a1 then (if a1 ≤ (l0.length : Int) then ((gantryref7_laid.f k (l0.take (a1 : Int).toNat)).bind fun bt264 => (gantryref7_Offset.l0 k l0 a1 a2 bt264.1 bt264.2 0 0)) else (none)) else (none)) = some r := h
 clear h
 by_cases c4 : 0 ≤ a1
 ·rw [if_pos c4] at H
  have c4b0 := eq_true c4
  have c4b1 : decide (0 ≤ a1) = true := decide_eq_true c4
  clear c4
  by_cases c5 : a1 ≤ (l0.length : Int)
  ·rw [if_pos c5] at H
   have c5b0 := eq_true c5
   have c5b1 : decide (a1 ≤ (l0.length : Int)) = true := decide_eq_true c5
   clear c5
   obtain ⟨y260, hy260⟩ : ∃ y_ : List (S124), y_ = (l0.take (a1 : Int).toNat) := ⟨_, rfl⟩
   replace H : ((gantryref7_laid.f k y260).bind fun bt264 => (gantryref7_Offset.l0 k l0 a1 a2 bt264.1 bt264.2 0 0)) = some r := by first | (rw [hy260]; with_reducible exact H) | (have H2_ := (Option.bind_some _ _).symm.trans H; rw [hy260]; with_reducible exact H2_) | (have H2_ := (Option.bind_some _ _).symm.trans H; with_reducible exact H2_) | with_reducible exact H | (rw [hy260]; exact H) | exact H
   have Ny260 := Aside0.mk hy260
   clear hy260
   replace H := Option.bind_eq_some_iff.mp H
   obtain ⟨⟨t264, t265⟩, A60, H⟩ := H
   replace H : (gantryref7_Offset.l0 k l0 a1 a2 t264 t265 0 0) = some r := H
   have A6 := Aside0.mk A60
   clear A60
   have H' := Aside0.mk H
   clear H
   have q7 : (a1 : Int) ≤ ((l0.length : Int) : Int) := of_decide_eq_true (by first | (with_reducible assumption) | assumption)
   obtain ⟨i07, hi07, _, hsz7, _⟩ := info_parts info124
   have hroom7 : l0.length ≤ c0 := HC0.out
   have hC7 : Kd.C k124 _ A0 l0.length l0 := HR0.out
   have hcut7 := cut_to (P := Try.prog) 54 124 .i64 Try.underlying54 hi07 A0 l0.length c0 a1 (of_decide_eq_true (by first | (with_reducible assumption) | assumption)) q7 hroom7
   have hr7 := Kd.C_take (m := (a1 : Int).toNat) hC7 (by omega)
   have hy7 : y260.length = (a1 : Int).toNat := (by rw [Ny260.out, List.length_take]; omega)
   rw [← Ny260.out] at hr7
   rw [← hy7] at hcut7
   have HR263 := Aside0.mk hr7
   have HC263 := Aside0.mk (show y260.length ≤ c0 from by omega)
   clear hr7 hC7 hroom7 hi07 hsz7
   have KY7 := Aside0.mk hy7
   clear hy7
   replace q7 := eq_true q7
   go_enter Try.func91, Try.ntmps91
   go_wp2_with (first | ((with_reducible refine gate_callee (f := 126) rfl ?_); refine goesL_ (some 17) rfl rfl Try.func126 (by kernel_rfl) rfl #[.slice A0 y260.length c0] rfl (by (try simp only [List.map_toArray, List.map_cons, List.map_nil]); first | done | rfl | (simp only [List.length_drop, List.length_take]; rfl)) ?_; (with_reducible refine (gantryref7_laid.calls k _ _ y260 t264 t265 _ ?side1 ?side2 A6.out).mono ?_); (case side1 => repeat (first | exact HR263.out | (with_reducible refine Kd.C_alloc ?_ _) | (with_reducible refine Kd.C_drewN ?_ _) | (with_reducible refine Kd.C_drew ?_))); (case side2 => exact HC263.out); rintro e w8 ⟨v266, v268, rfl, ho0, ho1, hb⟩; refine ⟨_, rfl, ?_⟩; have n0_ := Aside0.mk (Kd.R_lower ho0 (below_size (by repeat (first | (with_reducible first | exact HB.out | apply below_alloc | apply pw_below_drewN | apply below_drew1) | exact HB.out)))); have n1_ := Aside0.mk (Kd.R_lower ho1 (below_size (by repeat (first | (with_reducible first | exact HB.out | apply below_alloc | apply pw_below_drewN | apply below_drew1) | exact HB.out)))); have n2_ := Aside0.mk (below_step (by repeat (first | (with_reducible first | exact HB.out | apply below_alloc | apply pw_below_drewN | apply below_drew1) | exact HB.out)) hb); clear HB; have HO267 := n0_; have HO269 := n1_; have HB := n2_; clear n0_ n1_ n2_; (try clear hb); (try clear hb2); (try clear hk); (try clear hi); (try clear ho0); (try clear ho1)))
   go_loopg [9, 10] k (fun kq v9 v10 w' => ∃ (x9_1 : Int) (x10_1 : Int), v9 = .int .i64 x9_1 ∧ v10 = .int .i64 x10_1 ∧ Aside0 (gantryref7_Offset.l0 kq l0 a1 a2 t264 t265 x9_1 x10_1 = some r) ∧ Aside0 (kq ≤ k) ∧ Aside0 (Kd.R (Kd.int .i64) 3 w' w.heap.size (fun k_ => some k_ ≠ (v268 : Value).ownBlock) v266 t264) ∧ Aside0 (Kd.R (Kd.int .i64) 3 w' w.heap.size (fun k_ => some k_ ≠ (v266 : Value).ownBlock) v268 t265) ∧ Aside0 (Below w.heap.size w w'))
   case atStart => exact ⟨(0), (0), (by first | rfl | (simp; done) | (simp [*]; done)), (by first | rfl | (simp; done) | (simp [*]; done)), H', ⟨Nat.le_refl _⟩, ⟨by (with_reducible repeat (first | apply Kd.R_alloc | apply Kd.R_drewN | apply Kd.R_drew)); exact HO267.out⟩, ⟨by (with_reducible repeat (first | apply Kd.R_alloc | apply Kd.R_drewN | apply Kd.R_drew)); exact HO269.out⟩, ⟨by repeat (first | (with_reducible first | exact HB.out | apply below_alloc | apply pw_below_drewN | apply below_drew1) | exact HB.out)⟩⟩
   case round =>
    clear H'
    try clear c1
    try clear p2
    try clear c4
    try clear c4b0
    try clear c4b1
    try clear c5
    try clear c5b0
    try clear c5b1
    try clear q7
    try clear q7
    obtain ⟨x9_1, x10_1, rfl, rfl, HA, HK1, HO_7, HO_8, HB⟩ := hrel
    cases gk with
    | zero => exact absurd HA.out (by simp [gantryref7_Offset.l0])
    | succ k1 =>
     have H := HA.out
     clear HA
     simp only [gantryref7_Offset.l0] at H
     by_cases c9 : x10_1 ≤ a2
     ·rw [if_pos c9] at H
      have c9b0 : decide (x10_1 ≤ a2) = true := decide_eq_true c9
      clear c9
      by_cases c10 : 0 ≤ a1
      ·rw [if_pos c10] at H
       have c10b0 : decide (0 ≤ a1) = true := decide_eq_true c10
       clear c10
       by_cases c11 : a1 < (l0.length : Int)
       ·rw [if_pos c11] at H
        have c11b0 : decide (a1 < (l0.length : Int)) = true := decide_eq_true c11
        clear c11
        by_cases c12 : 0 ≤ x10_1
        ·rw [if_pos c12] at H
         have c12b0 : decide (0 ≤ x10_1) = true := decide_eq_true c12
         clear c12
         by_cases c13 : x10_1 < (((rd_T124 l0 a1).f3).length : Int)
         ·rw [if_pos c13] at H
          have c13b0 : decide (x10_1 < (((rd_T124 l0 a1).f3).length : Int)) = true := decide_eq_true c13
          clear c13
          by_cases c14 : 0 ≤ (rd ((rd_T124 l0 a1).f3) x10_1)
          ·rw [if_pos c14] at H
           have c14b0 : decide (0 ≤ (rd ((rd_T124 l0 a1).f3) x10_1)) = true := decide_eq_true c14
           clear c14
           by_cases c15 : (rd ((rd_T124 l0 a1).f3) x10_1) < (t265.length : Int)
           ·rw [if_pos c15] at H
            have c15b0 : decide ((rd ((rd_T124 l0 a1).f3) x10_1) < (t265.length : Int)) = true := decide_eq_true c15
            clear c15
            by_cases c16 : (rd t265 (rd ((rd_T124 l0 a1).f3) x10_1)) = 0
            ·rw [if_pos c16] at H
             exact absurd H (by simp)
            ·rw [if_neg c16] at H
             have c16b0 : ((rd t265 (rd ((rd_T124 l0 a1).f3) x10_1)) == 0) = false := beq_eq_false_iff_ne.mpr c16
             have c16b1 : ((rd t265 (rd ((rd_T124 l0 a1).f3) x10_1)) != 0) = true := bne_iff_ne.mpr c16
             by_cases c17 : x10_1 < a2
             ·rw [if_pos c17] at H
              have c17b0 : decide (x10_1 < a2) = true := decide_eq_true c17
              clear c17
              by_cases c18 : (rd ((rd_T124 l0 a1).f3) x10_1) < (t264.length : Int)
              ·rw [if_pos c18] at H
               have c18b0 : decide ((rd ((rd_T124 l0 a1).f3) x10_1) < (t264.length : Int)) = true := decide_eq_true c18
               clear c18
               have H' := Aside0.mk H
               clear H
               have p270 : 0 ≤ (a1 : Int) := of_decide_eq_true (by first | (with_reducible assumption) | assumption)
               have q270 : a1 < (l0.length : Int) := of_decide_eq_true (by first | (with_reducible assumption) | assumption)
               obtain ⟨ad270, A270_3, c270_3, e270, hx270_0, hx270_1, hx270_2, hx270_3, hl270_3, hi270_3⟩ := at_T124 HR0.out a1 p270 q270
               cases e270
               replace hx270_0 := (HB.out.cell (World.block_lt_of_cell? w _ hx270_0)).trans hx270_0
               replace hx270_1 := (HB.out.cell (World.block_lt_of_cell? w _ hx270_1)).trans hx270_1
               replace hx270_2 := (HB.out.cell (World.block_lt_of_cell? w _ hx270_2)).trans hx270_2
               replace hx270_3 := (HB.out.cell (World.block_lt_of_cell? w _ hx270_3)).trans hx270_3
               have HR270_3 := Aside0.mk hi270_3
               have HC270_3 := Aside0.mk hl270_3
               clear hi270_3 hl270_3
               replace p270 := eq_true p270
               replace q270 := eq_true q270
               have p271 : 0 ≤ (x10_1 : Int) := of_decide_eq_true (by first | (with_reducible assumption) | assumption)
               have q271 : x10_1 < (((rd_T124 l0 a1).f3).length : Int) := of_decide_eq_true (by first | (with_reducible assumption) | assumption)
               obtain ⟨ad271, e271, hx271_0⟩ := Kd.at_int HR270_3.out x10_1 p271 q271
               cases e271
               replace hx271_0 := (HB.out.cell (World.block_lt_of_cell? w _ hx271_0)).trans hx271_0
               replace p271 := eq_true p271
               replace q271 := eq_true q271
               obtain ⟨Ao19, co19, eo19⟩ := Kd.R_slice HO_8.out
               subst eo19
               have p272 : 0 ≤ ((rd ((rd_T124 l0 a1).f3) x10_1) : Int) := of_decide_eq_true (by first | (with_reducible assumption) | assumption)
               have q272 : (rd ((rd_T124 l0 a1).f3) x10_1) < (t265.length : Int) := of_decide_eq_true (by first | (with_reducible assumption) | assumption)
               obtain ⟨ad272, e272, hx272_0⟩ := Kd.at_int (Kd.R_reads' HO_8.out).2.2 (rd ((rd_T124 l0 a1).f3) x10_1) p272 q272
               cases e272
               replace p272 := eq_true p272
               replace q272 := eq_true q272
               obtain ⟨Ao20, co20, eo20⟩ := Kd.R_slice HO_7.out
               subst eo20
               have p273 : 0 ≤ ((rd ((rd_T124 l0 a1).f3) x10_1) : Int) := of_decide_eq_true (by first | (with_reducible assumption) | assumption)
               have q273 : (rd ((rd_T124 l0 a1).f3) x10_1) < (t264.length : Int) := of_decide_eq_true (by first | (with_reducible assumption) | assumption)
               obtain ⟨ad273, e273, hx273_0⟩ := Kd.at_int (Kd.R_reads' HO_7.out).2.2 (rd ((rd_T124 l0 a1).f3) x10_1) p273 q273
               cases e273
               replace p273 := eq_true p273
               replace q273 := eq_true q273
               go_wp2
               go_roundg k1
               case measure => have := HK1.out; omega
               case rel => exact ⟨(wrap64 ((wrap64 ((wrap64 (Int.tdiv (wrap64 ((wrap64 (x9_1 + (rd t265 (rd ((rd_T124 l0 a1).f3) x10_1)))) - 1)) (rd t265 (rd ((rd_T124 l0 a1).f3) x10_1)))) * (rd t265 (rd ((rd_T124 l0 a1).f3) x10_1)))) + (rd t264 (rd ((rd_T124 l0 a1).f3) x10_1)))), (wrap64 (x10_1 + 1)), (by first | rfl | (simp; done) | (simp [*]; done)), (by first | rfl | (simp; done) | (simp [*]; done)), H', ⟨by have := HK1.out; omega⟩, ⟨by (with_reducible repeat (first | apply Kd.R_alloc | apply Kd.R_drewN | apply Kd.R_drew)); exact HO_7.out⟩, ⟨by (with_reducible repeat (first | apply Kd.R_alloc | apply Kd.R_drewN | apply Kd.R_drew)); exact HO_8.out⟩, ⟨by repeat (first | (with_reducible first | exact HB.out | apply below_alloc | apply pw_below_drewN | apply below_drew1) | exact HB.out)⟩⟩
              ·rw [if_neg c18] at H
               exact absurd H (by simp)
             ·rw [if_neg c17] at H
              have c17b0 : decide (x10_1 < a2) = false := decide_eq_false c17
              clear c17
              have H' := Aside0.mk H
              clear H
              have p270 : 0 ≤ (a1 : Int) := of_decide_eq_true (by first | (with_reducible assumption) | assumption)
              have q270 : a1 < (l0.length : Int) := of_decide_eq_true (by first | (with_reducible assumption) | assumption)
              obtain ⟨ad270, A270_3, c270_3, e270, hx270_0, hx270_1, hx270_2, hx270_3, hl270_3, hi270_3⟩ := at_T124 HR0.out a1 p270 q270
              cases e270
              replace hx270_0 := (HB.out.cell (World.block_lt_of_cell? w _ hx270_0)).trans hx270_0
              replace hx270_1 := (HB.out.cell (World.block_lt_of_cell? w _ hx270_1)).trans hx270_1
              replace hx270_2 := (HB.out.cell (World.block_lt_of_cell? w _ hx270_2)).trans hx270_2
              replace hx270_3 := (HB.out.cell (World.block_lt_of_cell? w _ hx270_3)).trans hx270_3
              have HR270_3 := Aside0.mk hi270_3
              have HC270_3 := Aside0.mk hl270_3
              clear hi270_3 hl270_3
              replace p270 := eq_true p270
              replace q270 := eq_true q270
              have p271 : 0 ≤ (x10_1 : Int) := of_decide_eq_true (by first | (with_reducible assumption) | assumption)
              have q271 : x10_1 < (((rd_T124 l0 a1).f3).length : Int) := of_decide_eq_true (by first | (with_reducible assumption) | assumption)
              obtain ⟨ad271, e271, hx271_0⟩ := Kd.at_int HR270_3.out x10_1 p271 q271
              cases e271
              replace hx271_0 := (HB.out.cell (World.block_lt_of_cell? w _ hx271_0)).trans hx271_0
              replace p271 := eq_true p271
              replace q271 := eq_true q271
              obtain ⟨Ao21, co21, eo21⟩ := Kd.R_slice HO_8.out
              subst eo21
              have p272 : 0 ≤ ((rd ((rd_T124 l0 a1).f3) x10_1) : Int) := of_decide_eq_true (by first | (with_reducible assumption) | assumption)
              have q272 : (rd ((rd_T124 l0 a1).f3) x10_1) < (t265.length : Int) := of_decide_eq_true (by first | (with_reducible assumption) | assumption)
              obtain ⟨ad272, e272, hx272_0⟩ := Kd.at_int (Kd.R_reads' HO_8.out).2.2 (rd ((rd_T124 l0 a1).f3) x10_1) p272 q272
              cases e272
              replace p272 := eq_true p272
              replace q272 := eq_true q272
              go_wp2
              go_roundg k1
              case measure => have := HK1.out; omega
              case rel => exact ⟨(wrap64 ((wrap64 (Int.tdiv (wrap64 ((wrap64 (x9_1 + (rd t265 (rd ((rd_T124 l0 a1).f3) x10_1)))) - 1)) (rd t265 (rd ((rd_T124 l0 a1).f3) x10_1)))) * (rd t265 (rd ((rd_T124 l0 a1).f3) x10_1)))), (wrap64 (x10_1 + 1)), (by first | rfl | (simp; done) | (simp [*]; done)), (by first | rfl | (simp; done) | (simp [*]; done)), H', ⟨by have := HK1.out; omega⟩, ⟨by (with_reducible repeat (first | apply Kd.R_alloc | apply Kd.R_drewN | apply Kd.R_drew)); exact HO_7.out⟩, ⟨by (with_reducible repeat (first | apply Kd.R_alloc | apply Kd.R_drewN | apply Kd.R_drew)); exact HO_8.out⟩, ⟨by repeat (first | (with_reducible first | exact HB.out | apply below_alloc | apply pw_below_drewN | apply below_drew1) | exact HB.out)⟩⟩
           ·rw [if_neg c15] at H
            exact absurd H (by simp)
          ·rw [if_neg c14] at H
           exact absurd H (by simp)
         ·rw [if_neg c13] at H
          exact absurd H (by simp)
        ·rw [if_neg c12] at H
         exact absurd H (by simp)
       ·rw [if_neg c11] at H
        exact absurd H (by simp)
      ·rw [if_neg c10] at H
       exact absurd H (by simp)
     ·rw [if_neg c9] at H
      have c9b0 : decide (x10_1 ≤ a2) = false := decide_eq_false c9
      clear c9
      obtain rfl := Option.some.inj H
      go_wp2
      go_ret
      exact ⟨by first | rfl | (simp [errW_none, errW_some] <;> rfl) | (simp [*, errW_none, errW_some] <;> rfl), by repeat (first | (with_reducible first | exact HB.out | apply below_alloc | apply pw_below_drewN | apply below_drew1) | exact HB.out)⟩
  ·rw [if_neg c5] at H
   exact absurd H (by simp)
 ·rw [if_neg c4] at H
  exact absurd H (by simp)

end Go.Proofs.Ytekoogedhmhpgaa.Q

