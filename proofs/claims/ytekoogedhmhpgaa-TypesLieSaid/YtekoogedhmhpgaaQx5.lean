-- PRINTED by print.py (a twelfth state) out of the translation. Not trusted: Lean checks it.
import Derived.Test.YtekoogedhmhpgaaQx0
import Derived.Test.YtekoogedhmhpgaaQx2
import Derived.Test.YtekoogedhmhpgaaQGiven
namespace Go.Proofs.Ytekoogedhmhpgaa.Q
open Go.RowKit Go.Proofs.YtekoogedhmhpgaaW.PrintWords Go.Proofs.YtekoogedhmhpgaaW.PrintLast Go.Proofs.YtekoogedhmhpgaaW.PrintMore
attribute [local go_sem] max2_int min2_int max_two min_two max_three min_three max_four min_four   -- for this text's walks alone
set_option linter.unusedVariables false
set_option linter.unusedSimpArgs false

/-! ### gantryref1_Is: function 74 -/
def gantryref1_Is.f (k : Nat) (a0 : Int) (a1 : Int) : Option (Bool) := (gantryref1_Word.f a0).bind fun t138 => (if t138 = true then ((gantryref1_Canon.f k a0 a1).bind fun t139 => (some (t139 == a1))) else (some false))
theorem gantryref1_Is.mono : ∀ a0 a1 k, LeO (gantryref1_Is.f k a0 a1) (gantryref1_Is.f (k + 1) a0 a1) := by
  intro a0 a1 k
  unfold gantryref1_Is.f
  repeat' first
      | (with_reducible exact gantryref1_Canon.mono _ _ _)
      | (with_reducible exact LeO.refl _)
      | (with_reducible exact LeO.none _)
      | (with_reducible refine LeO.ite ?_ ?_)
      | (with_reducible refine LeO.bind ?_ (fun _ => ?_))
      | exact gantryref1_Canon.mono _ _ _
      | exact LeO.none _
      | refine LeO.ite ?_ ?_
      | refine LeO.bind ?_ (fun _ => ?_)
set_option maxHeartbeats 8000000 in
set_option maxRecDepth 100000 in
theorem gantryref1_Is.calls (k : Nat) (a0 : Int) (a1 : Int) (r : Bool) (w : World) (h : gantryref1_Is.f k a0 a1 = some r) :
    Calls Try.prog 74 #[.int .i64 a0, .int .u64 a1] w fun e w' => e = .returned (.bool r) ∧ Drawn0 w w' := by
  have H : ((gantryref1_Word.f a0).bind fun t138 => (if t138 = true then ((gantryref1_Canon.f k a0 a1).bind fun t139 => (some (t139 == a1))) else (some false))) = some r := h
  clear h
  replace H := Option.bind_eq_some_iff.mp H
  obtain ⟨t138, A30, H⟩ := H
  replace H : (if t138 = true then ((gantryref1_Canon.f k a0 a1).bind fun t139 => (some (t139 == a1))) else (some false)) = some r := H
  have A3 := Aside0.mk A30
  clear A30
  by_cases c4 : t138 = true
  · subst c4
    have H1 : ((gantryref1_Canon.f k a0 a1).bind fun t139 => (some (t139 == a1))) = some r := by rw [if_pos rfl] at H; exact H
    clear H
    have H := H1
    clear H1
    replace H := Option.bind_eq_some_iff.mp H
    obtain ⟨t139, A50, H⟩ := H
    replace H : (some (t139 == a1)) = some r := H
    have A5 := Aside0.mk A50
    clear A50
    obtain rfl := Option.some.inj H
    go_enter Try.func74, Try.ntmps74
    go_wp2_with (first | ((with_reducible refine gate_callee (f := 58) rfl ?_); refine goesL_ (some 6) rfl rfl Try.func58 (by kernel_rfl) rfl #[.int .i64 a0] rfl (by (try simp only [List.map_toArray, List.map_cons, List.map_nil]); first | done | rfl | (simp only [List.length_drop, List.length_take]; rfl)) ?_; (with_reducible refine (gantryref1_Word.calls a0 true _ A3.out).mono ?_); rintro e w' ⟨rfl, ⟨nd, rfl⟩⟩; refine ⟨_, rfl, ?_⟩) | (go_at_call 13; (with_reducible refine (gantryref1_Canon.calls k a0 a1 t139 _ A5.out).mono ?_); rintro e w' ⟨rfl, ⟨nd, rfl⟩⟩))
    go_ret
    exact ⟨by first | rfl | (simp; done) | (simp [*]; done), by repeat (first | exact Drawn0.refl _ | apply Drawn0.step)⟩
  · replace c4 := Bool.eq_false_iff.mpr c4
    subst c4
    have H1 : (some false) = some r := by rw [if_neg (show ¬ (false = true) by decide)] at H; exact H
    clear H
    have H := H1
    clear H1
    obtain rfl := Option.some.inj H
    go_enter Try.func74, Try.ntmps74
    go_wp2_with (first | ((with_reducible refine gate_callee (f := 58) rfl ?_); refine goesL_ (some 6) rfl rfl Try.func58 (by kernel_rfl) rfl #[.int .i64 a0] rfl (by (try simp only [List.map_toArray, List.map_cons, List.map_nil]); first | done | rfl | (simp only [List.length_drop, List.length_take]; rfl)) ?_; (with_reducible refine (gantryref1_Word.calls a0 false _ A3.out).mono ?_); rintro e w' ⟨rfl, ⟨nd, rfl⟩⟩; refine ⟨_, rfl, ?_⟩))
    go_ret
    exact ⟨by first | rfl | (simp; done) | (simp [*]; done), by repeat (first | exact Drawn0.refl _ | apply Drawn0.step)⟩

-- NOT PRINTED: function 75 (gantryref2_Mem_Store)

-- NOT PRINTED: function 77 (mem_Mem_Put)

-- NOT PRINTED: function 78 (gantryref2_Mem_Put)

-- NOT PRINTED: function 21 (gantrylaw2_one)

-- NOT PRINTED: function 4 (gantrylaw2_MemExact)

/-! ### gantrylaw7_Heavy: function 24 -/
def gantrylaw7_Heavy.l0 : Nat → List (S124) → Int → Int → Option (Bool)
  | 0, _, _, _ => none
  | k + 1, x0, x3, x4 => if x4 < (x0.length : Int) then (if x3 < 2000 then (if 0 ≤ x4 then (gantrylaw7_Heavy.l0 k x0 (wrap64 (x3 + (((rd_T124 x0 x4).f3).length : Int))) (wrap64 (x4 + 1))) else (none)) else (some (decide (x3 > 2000)))) else (some (decide (x3 > 2000)))
def gantrylaw7_Heavy.f (k : Nat) (l0 : List (S124)) : Option (Bool) := gantrylaw7_Heavy.l0 k l0 (l0.length : Int) 0
theorem gantrylaw7_Heavy.mono_l : ∀ k, (∀ y0 y1 y2, LeO (gantrylaw7_Heavy.l0 k y0 y1 y2) (gantrylaw7_Heavy.l0 (k + 1) y0 y1 y2))
  | 0 => fun _ _ _ r h => by simp [gantrylaw7_Heavy.l0] at h
  | k + 1 => by
    have ih0 := gantrylaw7_Heavy.mono_l k
    · intro y0 y1 y2
      unfold gantrylaw7_Heavy.l0
      repeat' first
      | (with_reducible exact ih0 _ _ _)
      | (with_reducible exact LeO.refl _)
      | (with_reducible exact LeO.none _)
      | (with_reducible refine LeO.ite ?_ ?_)
      | (with_reducible refine LeO.bind ?_ (fun _ => ?_))
      | exact ih0 _ _ _
      | exact LeO.none _
      | refine LeO.ite ?_ ?_
      | refine LeO.bind ?_ (fun _ => ?_)
theorem gantrylaw7_Heavy.mono : ∀ a0 k, LeO (gantrylaw7_Heavy.f k a0) (gantrylaw7_Heavy.f (k + 1) a0) := by
  intro a0 k
  have ih0 := gantrylaw7_Heavy.mono_l k
  unfold gantrylaw7_Heavy.f
  repeat' first
      | (with_reducible exact ih0 _ _ _)
      | (with_reducible exact LeO.refl _)
      | (with_reducible exact LeO.none _)
      | (with_reducible refine LeO.ite ?_ ?_)
      | (with_reducible refine LeO.bind ?_ (fun _ => ?_))
      | exact ih0 _ _ _
      | exact LeO.none _
      | refine LeO.ite ?_ ?_
      | refine LeO.bind ?_ (fun _ => ?_)
set_option maxHeartbeats 8000000 in
set_option maxRecDepth 100000 in
theorem gantrylaw7_Heavy.calls (k : Nat) (A0 : Option Addr) (c0 : Nat) (l0 : List (S124)) (r : Bool) (w : World) (hr0 : Kd.C k124 w A0 l0.length l0) (hc0 : l0.length ≤ c0) (h : gantrylaw7_Heavy.f k l0 = some r) :
    Calls Try.prog 24 #[.slice A0 l0.length c0] w fun e w' => e = .returned (.bool r) ∧ Drawn0 w w' := by
  have HR0 := Aside0.mk hr0
  have HC0 := Aside0.mk hc0
  clear hr0 hc0
  have H : (gantrylaw7_Heavy.l0 k l0 (l0.length : Int) 0) = some r := h
  clear h
  have H' := Aside0.mk H
  clear H
  go_enter Try.func24, Try.ntmps24
  go_wp2
  go_loopg [3, 4] k (fun kq v3 v4 w' => ∃ (x3_1 : Int) (x4_1 : Int), v3 = .int .i64 x3_1 ∧ v4 = .int .i64 x4_1 ∧ Aside0 (gantrylaw7_Heavy.l0 kq l0 x3_1 x4_1 = some r) ∧ Aside0 (kq ≤ k) ∧ Drawn0 w w')
  case atStart => exact ⟨((l0.length : Int)), (0), (by first | rfl | (simp; done) | (simp [*]; done)), (by first | rfl | (simp; done) | (simp [*]; done)), H', ⟨Nat.le_refl _⟩, by repeat (first | exact Drawn0.refl _ | apply Drawn0.step)⟩
  case round =>
    clear H'
    obtain ⟨x3_1, x4_1, rfl, rfl, HA, HK1, ⟨m1, rfl⟩⟩ := hrel
    cases gk with
    | zero => exact absurd HA.out (by simp [gantrylaw7_Heavy.l0])
    | succ k1 =>
      have H := HA.out
      clear HA
      simp only [gantrylaw7_Heavy.l0] at H
      by_cases c2 : x4_1 < (l0.length : Int)
      · rw [if_pos c2] at H
        have c2b0 : decide (x4_1 < (l0.length : Int)) = true := decide_eq_true c2
        clear c2
        by_cases c3 : x3_1 < 2000
        · rw [if_pos c3] at H
          have c3b0 : decide (x3_1 < 2000) = true := decide_eq_true c3
          clear c3
          by_cases c4 : 0 ≤ x4_1
          · rw [if_pos c4] at H
            have c4b0 : decide (0 ≤ x4_1) = true := decide_eq_true c4
            clear c4
            have H' := Aside0.mk H
            clear H
            have p144 : 0 ≤ (x4_1 : Int) := of_decide_eq_true (by first | (with_reducible assumption) | assumption)
            have q144 : x4_1 < (l0.length : Int) := of_decide_eq_true (by first | (with_reducible assumption) | assumption)
            obtain ⟨ad144, A144_3, c144_3, e144, hx144_0, hx144_1, hx144_2, hx144_3, hl144_3, hi144_3⟩ := at_T124 HR0.out x4_1 p144 q144
            cases e144
            have HR144_3 := Aside0.mk hi144_3
            have HC144_3 := Aside0.mk hl144_3
            clear hi144_3 hl144_3
            replace p144 := eq_true p144
            replace q144 := eq_true q144
            go_wp2
            go_roundg k1
            case measure => have := HK1.out; omega
            case rel => exact ⟨(wrap64 (x3_1 + (((rd_T124 l0 x4_1).f3).length : Int))), (wrap64 (x4_1 + 1)), (by first | rfl | (simp; done) | (simp [*]; done)), (by first | rfl | (simp; done) | (simp [*]; done)), H', ⟨by have := HK1.out; omega⟩, by repeat (first | exact Drawn0.refl _ | apply Drawn0.step)⟩
          · rw [if_neg c4] at H
            exact absurd H (by simp)
        · rw [if_neg c3] at H
          have c3b0 : decide (x3_1 < 2000) = false := decide_eq_false c3
          clear c3
          obtain rfl := Option.some.inj H
          go_wp2
          go_ret
          exact ⟨by first | rfl | (simp; done) | (simp [*]; done), by repeat (first | exact Drawn0.refl _ | apply Drawn0.step)⟩
      · rw [if_neg c2] at H
        have c2b0 : decide (x4_1 < (l0.length : Int)) = false := decide_eq_false c2
        clear c2
        obtain rfl := Option.some.inj H
        go_wp2
        go_ret
        exact ⟨by first | rfl | (simp; done) | (simp [*]; done), by repeat (first | exact Drawn0.refl _ | apply Drawn0.step)⟩

/-! ### gantrylaw7_num: function 25 -/
def gantrylaw7_num.f (a0 : Int) : Option (Int) := some a0
set_option maxHeartbeats 8000000 in
set_option maxRecDepth 100000 in
theorem gantrylaw7_num.calls (a0 : Int) (r : Int) (w : World) (h : gantrylaw7_num.f a0 = some r) :
    Calls Try.prog 25 #[.int .i64 a0] w fun e w' => e = .returned (.int .i64 r) ∧ Drawn0 w w' := by
  have H : (some a0) = some r := h
  clear h
  obtain rfl := Option.some.inj H
  go_enter Try.func25, Try.ntmps25
  go_wp2
  go_ret
  exact ⟨by first | rfl | (simp; done) | (simp [*]; done), by repeat (first | exact Drawn0.refl _ | apply Drawn0.step)⟩

/-! ### types_scalar: function 149 -/
def types_scalar.f (a0 : Int) : Option (Bool) := if a0 ≥ 1 then (some (decide (a0 ≤ 11))) else (some false)
set_option maxHeartbeats 8000000 in
set_option maxRecDepth 100000 in
theorem types_scalar.calls (a0 : Int) (r : Bool) (w : World) (h : types_scalar.f a0 = some r) :
    Calls Try.prog 149 #[.int .i64 a0] w fun e w' => e = .returned (.bool r) ∧ Drawn0 w w' := by
  have H : (if a0 ≥ 1 then (some (decide (a0 ≤ 11))) else (some false)) = some r := h
  clear h
  by_cases c2 : a0 ≥ 1
  · rw [if_pos c2] at H
    have c2b0 : decide (1 ≤ a0) = true := decide_eq_true c2
    clear c2
    obtain rfl := Option.some.inj H
    go_enter Try.func149, Try.ntmps149
    go_wp2
    go_ret
    exact ⟨by first | rfl | (simp; done) | (simp [*]; done), by repeat (first | exact Drawn0.refl _ | apply Drawn0.step)⟩
  · rw [if_neg c2] at H
    have c2b0 : decide (1 ≤ a0) = false := decide_eq_false c2
    clear c2
    obtain rfl := Option.some.inj H
    go_enter Try.func149, Try.ntmps149
    go_wp2
    go_ret
    exact ⟨by first | rfl | (simp; done) | (simp [*]; done), by repeat (first | exact Drawn0.refl _ | apply Drawn0.step)⟩

-- NOT PRINTED: function 173 (slices_IndexFunc_int_int)

-- NOT PRINTED: function 150 (slices_ContainsFunc_int_int)

-- NOT PRINTED: function 119 (types_shaped)

/-! ### types_up: function 152 -/
def types_up.f (a0 : Int) (a1 : Int) : Option (Int) := if a1 = 0 then (none) else (some (wrap64 ((wrap64 (Int.tdiv (wrap64 ((wrap64 (a0 + a1)) - 1)) a1)) * a1)))
set_option maxHeartbeats 8000000 in
set_option maxRecDepth 100000 in
theorem types_up.calls (a0 : Int) (a1 : Int) (r : Int) (w : World) (h : types_up.f a0 a1 = some r) :
    Calls Try.prog 152 #[.int .i64 a0, .int .i64 a1] w fun e w' => e = .returned (.int .i64 r) ∧ Drawn0 w w' := by
  have H : (if a1 = 0 then (none) else (some (wrap64 ((wrap64 (Int.tdiv (wrap64 ((wrap64 (a0 + a1)) - 1)) a1)) * a1)))) = some r := h
  clear h
  by_cases c3 : a1 = 0
  · rw [if_pos c3] at H
    exact absurd H (by simp)
  · rw [if_neg c3] at H
    have c3b0 : (a1 == 0) = false := beq_eq_false_iff_ne.mpr c3
    have c3b1 : (a1 != 0) = true := bne_iff_ne.mpr c3
    obtain rfl := Option.some.inj H
    go_enter Try.func152, Try.ntmps152
    go_wp2
    go_ret
    exact ⟨by first | rfl | (simp; done) | (simp [*]; done), by repeat (first | exact Drawn0.refl _ | apply Drawn0.step)⟩

-- NOT PRINTED: function 121 (types_one)

-- NOT PRINTED: function 80 (types_lies)

/-! ### gantryref0_CopyNumbers: function 38 -/
def gantryref0_CopyNumbers.f (l0 : List Int) : Option (List Int) := if ([] : List Int).length + l0.length < 17592186044416 then (some (([] : List Int) ++ l0)) else (none)
set_option maxHeartbeats 8000000 in
set_option maxRecDepth 100000 in
theorem gantryref0_CopyNumbers.calls (A0 : Option Addr) (c0 : Nat) (l0 : List Int) (r : List Int) (w : World) (hr0 : Kd.C (Kd.int .i64) w A0 l0.length l0) (hc0 : l0.length ≤ c0) (h : gantryref0_CopyNumbers.f l0 = some r) :
    Calls Try.prog 38 #[.slice A0 l0.length c0] w fun e w' => ∃ v0_ : Value, e = .returned (v0_) ∧ Kd.R (Kd.int .i64) 3 w' w.heap.size (fun _ => True) v0_ r ∧ Below w.heap.size w w' := by
  have HR0 := Aside0.mk hr0
  have HC0 := Aside0.mk hc0
  clear hr0 hc0
  have HB := Aside0.mk (Below.refl w.heap.size w)
  have H : (if ([] : List Int).length + l0.length < 17592186044416 then (some (([] : List Int) ++ l0)) else (none)) = some r := h
  clear h
  by_cases c2 : ([] : List Int).length + l0.length < 17592186044416
  · rw [if_pos c2] at H
    have LMc2 := Aside0.mk c2
    clear c2
    obtain ⟨y146, hy146⟩ : ∃ y_ : List Int, y_ = (([] : List Int) ++ l0) := ⟨_, rfl⟩
    replace H : (some y146) = some r := by first | (rw [hy146]; with_reducible exact H) | (have H2_ := (Option.bind_some _ _).symm.trans H; rw [hy146]; with_reducible exact H2_) | (have H2_ := (Option.bind_some _ _).symm.trans H; with_reducible exact H2_) | with_reducible exact H | (rw [hy146]; exact H) | exact H
    have Ny146 := Aside0.mk hy146
    clear hy146
    obtain rfl := Option.some.inj H
    go_enter Try.func38, Try.ntmps38
    go_wp2_with (first | ((with_reducible refine gate_builtin (b := .append) (xs := #[.tmp 4, .tmp 5]) rfl ?_); at_builtin; refine Kd.R_append_rows (Kd.int .i64) (w0 := w) w.heap.size rfl (.tmp 4) (.tmp 5) 55 3 (.int .i64 0) 8 rfl Try.underlying55 info3 rfl (by decide) (by omega) (.slice none 0 0) ([] : List Int) l0 _ _ _ (fun _ => True) (fun _ => False) rfl rfl ?aO ?aR (fun _ _ h => h) (fun _ h => h.elim) ?aF ?aB ?aS ?aL ?_; (case aR => repeat (first | exact HR0.out | (with_reducible refine Kd.C_alloc ?_ _) | (with_reducible refine Kd.C_drewN ?_ _) | (with_reducible refine Kd.C_drew ?_))); (case aB => exact (by repeat (first | (with_reducible first | exact HB.out | apply below_alloc | apply pw_below_drewN | apply below_drew1) | exact HB.out))); (case aF => exact (fun _ _ => trivial)); (case aO => exact ((Kd.R_nil _ _ _ _ (fun _ => True)))); (case aS => exact (below_size (by repeat (first | (with_reducible first | exact HB.out | apply below_alloc | apply pw_below_drewN | apply below_drew1) | exact HB.out)))); (case aL => have := LMc2.out; omega); intro v147 w3 ho hb hg hat; rw [← Ny146.out] at ho; have n0_ := Aside0.mk (hb); have n1_ := Aside0.mk (ho); clear HB; have HB := n0_; have HO148 := n1_; clear n0_ n1_; clear ho hb hg hat))
    go_ret
    exact ⟨_, by first | rfl | (simp [errW_none, errW_some] <;> rfl) | (simp [*, errW_none, errW_some] <;> rfl), by (with_reducible repeat (first | apply Kd.R_alloc | apply Kd.R_drewN | apply Kd.R_drew)); exact HO148.out, by repeat (first | (with_reducible first | exact HB.out | apply below_alloc | apply pw_below_drewN | apply below_drew1) | exact HB.out)⟩
  · rw [if_neg c2] at H
    exact absurd H (by simp)

/-! ### gantryref0_CopyType: function 81 -/
def gantryref0_CopyType.f (a0_0 : Int) (a0_1 : Int) (a0_2 : Int) (l0_3 : List Int) : Option (Int × Int × Int × List Int) := (gantryref0_CopyNumbers.f l0_3).bind fun t152 => (some (a0_0, a0_1, a0_2, t152))
set_option maxHeartbeats 8000000 in
set_option maxRecDepth 100000 in
theorem gantryref0_CopyType.calls (a0_0 : Int) (a0_1 : Int) (a0_2 : Int) (A0_3 : Option Addr) (c0_3 : Nat) (l0_3 : List Int) (r1 : Int) (r2 : Int) (r3 : Int) (r4 : List Int) (w : World) (hr0_3 : Kd.C (Kd.int .i64) w A0_3 l0_3.length l0_3) (hc0_3 : l0_3.length ≤ c0_3) (h : gantryref0_CopyType.f a0_0 a0_1 a0_2 l0_3 = some (r1, r2, r3, r4)) :
    Calls Try.prog 81 #[.agg #[.int .i64 a0_0, .int .i64 a0_1, .int .i64 a0_2, .slice A0_3 l0_3.length c0_3]] w fun e w' => ∃ v3_ : Value, e = .returned (.agg #[.int .i64 r1, .int .i64 r2, .int .i64 r3, v3_]) ∧ Kd.R (Kd.int .i64) 3 w' w.heap.size (fun _ => True) v3_ r4 ∧ Below w.heap.size w w' := by
  have hu124 := Try.underlying124
  have HR0_3 := Aside0.mk hr0_3
  have HC0_3 := Aside0.mk hc0_3
  clear hr0_3 hc0_3
  have HB := Aside0.mk (Below.refl w.heap.size w)
  have H : ((gantryref0_CopyNumbers.f l0_3).bind fun t152 => (some (a0_0, a0_1, a0_2, t152))) = some (r1, r2, r3, r4) := h
  clear h
  replace H := Option.bind_eq_some_iff.mp H
  obtain ⟨t152, A20, H⟩ := H
  replace H : (some (a0_0, a0_1, a0_2, t152)) = some (r1, r2, r3, r4) := H
  have A2 := Aside0.mk A20
  clear A20
  simp only [Option.some.injEq, Prod.mk.injEq] at H
  obtain ⟨rfl, rfl, rfl, rfl⟩ := H
  go_enter Try.func81, Try.ntmps81
  go_wp2_with (first | ((with_reducible refine gate_dst (N := 1) rfl ?_); refine box_event ?hg (N := 1) ?hd (cs := #[.int .i64 a0_0, .int .i64 a0_1, .int .i64 a0_2, .slice A0_3 l0_3.length c0_3]) (t := 124) ?hr ?_; (case hd => rfl); (case hg => rfl); (case hr => first | (go_simp; done) | (go_simp; rfl)); intro gb149 hg w3 hbox hb; have n0_ := Aside0.mk (below_step (by repeat (first | (with_reducible first | exact HB.out | apply below_alloc | apply pw_below_drewN | apply below_drew1) | exact HB.out)) hb); have n1_ := Aside0.mk (hbox); have n2_ := Aside0.mk ((by rw [hg]; exact (below_size (by repeat (first | (with_reducible first | exact HB.out | apply below_alloc | apply pw_below_drewN | apply below_drew1) | exact HB.out))) : w.heap.size ≤ gb149)); have n3_ := Aside0.mk ((by rw [hg]; exact (below_size (by repeat (first | (with_reducible first | exact HB.out | apply below_alloc | apply pw_below_drewN | apply below_drew1) | exact HB.out))) : w.heap.size ≤ gb149)); clear HB; have HB := n0_; have BK149 := n1_; have GW149 := n2_; have GE149 := n3_; clear n0_ n1_ n2_ n3_; clear hb hbox hg) | ((with_reducible refine gate_dst (N := 2) rfl ?_); refine box_event ?hg (N := 2) ?hd (cs := #[.int .i64 0, .int .i64 0, .int .i64 0, .slice none 0 0]) (t := 124) ?hr ?_; (case hd => rfl); (case hg => rfl); (case hr => first | (go_simp; done) | (go_simp; rfl)); intro gb150 hg w4 hbox hb; have n0_ := Aside0.mk (blk_below (g := gb149) (o := .cells #[.int .i64 a0_0, .int .i64 a0_1, .int .i64 a0_2, .slice A0_3 l0_3.length c0_3] 124 (0, 0)) (by (with_reducible repeat (first | refine blk_drewN ?_ _ | refine blk_drew ?_ | refine blk_alloc ?_ _)); exact BK149.out) hb); have n1_ := Aside0.mk (below_step (by repeat (first | (with_reducible first | exact HB.out | apply below_alloc | apply pw_below_drewN | apply below_drew1 | refine below_set ?_ GE149.out) | exact HB.out)) hb); have n2_ := Aside0.mk (hbox); have n3_ := Aside0.mk ((by rw [hg]; exact (below_size (by repeat (first | (with_reducible first | exact HB.out | apply below_alloc | apply pw_below_drewN | apply below_drew1 | refine below_set ?_ GE149.out) | exact HB.out))) : w.heap.size ≤ gb150)); have n4_ := Aside0.mk ((by rw [hg]; exact (below_size (by repeat (first | (with_reducible first | exact HB.out | apply below_alloc | apply pw_below_drewN | apply below_drew1 | refine below_set ?_ GE149.out) | exact HB.out))) : w.heap.size ≤ gb150)); have n5_ := Aside0.mk ((by rw [hg]; exact Nat.ne_of_lt (blk_lt (g := gb149) (o := .cells #[.int .i64 a0_0, .int .i64 a0_1, .int .i64 a0_2, .slice A0_3 l0_3.length c0_3] 124 (0, 0)) (by (with_reducible repeat (first | refine blk_drewN ?_ _ | refine blk_drew ?_ | refine blk_alloc ?_ _)); exact BK149.out)) : gb149 ≠ gb150)); have n6_ := Aside0.mk ((by rw [hg]; exact Nat.ne_of_gt (blk_lt (g := gb149) (o := .cells #[.int .i64 a0_0, .int .i64 a0_1, .int .i64 a0_2, .slice A0_3 l0_3.length c0_3] 124 (0, 0)) (by (with_reducible repeat (first | refine blk_drewN ?_ _ | refine blk_drew ?_ | refine blk_alloc ?_ _)); exact BK149.out)) : gb150 ≠ gb149)); clear BK149; clear HB; have BK149 := n0_; have HB := n1_; have BK150 := n2_; have GW150 := n3_; have GE150 := n4_; have NB149_150 := n5_; have NB150_149 := n6_; clear n0_ n1_ n2_ n3_ n4_ n5_ n6_; clear hb hbox hg; have hnb5 := NB149_150.out; have hnc5 := NB150_149.out; have hcz6_0 : w4.cell? ⟨gb149, 0, none⟩ = some (.int .i64 a0_0) := (blk_cell BK149.out 0).trans rfl; have hcz6_1 : w4.cell? ⟨gb149, 1, none⟩ = some (.int .i64 a0_1) := (blk_cell BK149.out 1).trans rfl; have hcz6_2 : w4.cell? ⟨gb149, 2, none⟩ = some (.int .i64 a0_2) := (blk_cell BK149.out 2).trans rfl; have hcz6_3 : w4.cell? ⟨gb149, 3, none⟩ = some (.slice A0_3 l0_3.length c0_3) := (blk_cell BK149.out 3).trans rfl; have hfz6_0 := blk_frozen BK149.out 0; have hfz6_1 := blk_frozen BK149.out 1; have hfz6_2 := blk_frozen BK149.out 2; have hfz6_3 := blk_frozen BK149.out 3) | ((with_reducible refine gate_dst (N := 3) rfl ?_); refine box_event ?hg (N := 3) ?hd (cs := #[.int .i64 0, .int .i64 0, .int .i64 0, .slice none 0 0]) (t := 124) ?hr ?_; (case hd => rfl); (case hg => rfl); (case hr => first | (go_simp; done) | (go_simp; rfl)); intro gb151 hg w7 hbox hb; have n0_ := Aside0.mk (blk_below (g := gb149) (o := .cells #[.int .i64 a0_0, .int .i64 a0_1, .int .i64 a0_2, .slice A0_3 l0_3.length c0_3] 124 (0, 0)) (by (with_reducible repeat (first | refine blk_drewN ?_ _ | refine blk_drew ?_ | refine blk_alloc ?_ _)); exact BK149.out) hb); have n1_ := Aside0.mk (blk_below (g := gb150) (o := .cells #[.int .i64 0, .int .i64 0, .int .i64 0, .slice none 0 0] 124 (0, 0)) (by (with_reducible repeat (first | refine blk_drewN ?_ _ | refine blk_drew ?_ | refine blk_alloc ?_ _)); exact BK150.out) hb); have n2_ := Aside0.mk (below_step (by repeat (first | (with_reducible first | exact HB.out | apply below_alloc | apply pw_below_drewN | apply below_drew1 | refine below_set ?_ GE149.out | refine below_set ?_ GE150.out) | exact HB.out)) hb); have n3_ := Aside0.mk (hbox); have n4_ := Aside0.mk ((by rw [hg]; exact (below_size (by repeat (first | (with_reducible first | exact HB.out | apply below_alloc | apply pw_below_drewN | apply below_drew1 | refine below_set ?_ GE149.out | refine below_set ?_ GE150.out) | exact HB.out))) : w.heap.size ≤ gb151)); have n5_ := Aside0.mk ((by rw [hg]; exact (below_size (by repeat (first | (with_reducible first | exact HB.out | apply below_alloc | apply pw_below_drewN | apply below_drew1 | refine below_set ?_ GE149.out | refine below_set ?_ GE150.out) | exact HB.out))) : w.heap.size ≤ gb151)); have n6_ := Aside0.mk ((by rw [hg]; exact Nat.ne_of_lt (blk_lt (g := gb149) (o := .cells #[.int .i64 a0_0, .int .i64 a0_1, .int .i64 a0_2, .slice A0_3 l0_3.length c0_3] 124 (0, 0)) (by (with_reducible repeat (first | refine blk_drewN ?_ _ | refine blk_drew ?_ | refine blk_alloc ?_ _)); exact BK149.out)) : gb149 ≠ gb151)); have n7_ := Aside0.mk ((by rw [hg]; exact Nat.ne_of_gt (blk_lt (g := gb149) (o := .cells #[.int .i64 a0_0, .int .i64 a0_1, .int .i64 a0_2, .slice A0_3 l0_3.length c0_3] 124 (0, 0)) (by (with_reducible repeat (first | refine blk_drewN ?_ _ | refine blk_drew ?_ | refine blk_alloc ?_ _)); exact BK149.out)) : gb151 ≠ gb149)); have n8_ := Aside0.mk ((by rw [hg]; exact Nat.ne_of_lt (blk_lt (g := gb150) (o := .cells #[.int .i64 0, .int .i64 0, .int .i64 0, .slice none 0 0] 124 (0, 0)) (by (with_reducible repeat (first | refine blk_drewN ?_ _ | refine blk_drew ?_ | refine blk_alloc ?_ _)); exact BK150.out)) : gb150 ≠ gb151)); have n9_ := Aside0.mk ((by rw [hg]; exact Nat.ne_of_gt (blk_lt (g := gb150) (o := .cells #[.int .i64 0, .int .i64 0, .int .i64 0, .slice none 0 0] 124 (0, 0)) (by (with_reducible repeat (first | refine blk_drewN ?_ _ | refine blk_drew ?_ | refine blk_alloc ?_ _)); exact BK150.out)) : gb151 ≠ gb150)); clear BK149; clear BK150; clear HB; have BK149 := n0_; have BK150 := n1_; have HB := n2_; have BK151 := n3_; have GW151 := n4_; have GE151 := n5_; have NB149_151 := n6_; have NB151_149 := n7_; have NB150_151 := n8_; have NB151_150 := n9_; clear n0_ n1_ n2_ n3_ n4_ n5_ n6_ n7_ n8_ n9_; clear hb hbox hg; have hnb8 := NB151_149.out; have hnc8 := NB149_151.out; have hnb9 := NB151_150.out; have hnc9 := NB150_151.out; have hcz10_0 : w7.cell? ⟨gb151, 0, none⟩ = some (.int .i64 0) := (blk_cell BK151.out 0).trans rfl; have hcz10_1 : w7.cell? ⟨gb151, 1, none⟩ = some (.int .i64 0) := (blk_cell BK151.out 1).trans rfl; have hcz10_2 : w7.cell? ⟨gb151, 2, none⟩ = some (.int .i64 0) := (blk_cell BK151.out 2).trans rfl; have hcz10_3 : w7.cell? ⟨gb151, 3, none⟩ = some (.slice none 0 0) := (blk_cell BK151.out 3).trans rfl; have hfz10_0 := blk_frozen BK151.out 0; have hfz10_1 := blk_frozen BK151.out 1; have hfz10_2 := blk_frozen BK151.out 2; have hfz10_3 := blk_frozen BK151.out 3; have hcz11_0 : w7.cell? ⟨gb149, 0, none⟩ = some (.int .i64 a0_0) := (blk_cell BK149.out 0).trans rfl; have hcz11_1 : w7.cell? ⟨gb149, 1, none⟩ = some (.int .i64 a0_1) := (blk_cell BK149.out 1).trans rfl; have hcz11_2 : w7.cell? ⟨gb149, 2, none⟩ = some (.int .i64 a0_2) := (blk_cell BK149.out 2).trans rfl; have hcz11_3 : w7.cell? ⟨gb149, 3, none⟩ = some (.slice A0_3 l0_3.length c0_3) := (blk_cell BK149.out 3).trans rfl; have hfz11_0 := blk_frozen BK149.out 0; have hfz11_1 := blk_frozen BK149.out 1; have hfz11_2 := blk_frozen BK149.out 2; have hfz11_3 := blk_frozen BK149.out 3) | ((with_reducible refine gate_callee (f := 38) rfl ?_); refine goesL_ (some 7) rfl rfl Try.func38 (by kernel_rfl) rfl #[.slice A0_3 l0_3.length c0_3] rfl (by (try simp only [List.map_toArray, List.map_cons, List.map_nil]); first | done | rfl | (simp only [List.length_drop, List.length_take]; rfl)) ?_; (with_reducible refine (gantryref0_CopyNumbers.calls _ _ l0_3 t152 _ ?side1 ?side2 A2.out).mono ?_); (case side1 => exact Kd.C_below HR0_3.out (by repeat (first | (with_reducible first | exact HB.out | apply below_alloc | apply pw_below_drewN | apply below_drew1 | refine below_set ?_ GE149.out | refine below_set ?_ GE150.out | refine below_set ?_ GE151.out) | exact HB.out))); (case side2 => exact HC0_3.out); rintro e w12 ⟨v153, rfl, ho0, hb⟩; refine ⟨_, rfl, ?_⟩; have n0_ := Aside0.mk (Kd.R_lower ho0 (below_size (by repeat (first | (with_reducible first | exact HB.out | apply below_alloc | apply pw_below_drewN | apply below_drew1 | refine below_set ?_ GE149.out | refine below_set ?_ GE150.out | refine below_set ?_ GE151.out) | exact HB.out)))); have n1_ := Aside0.mk (blk_below (g := gb149) (o := .cells #[.int .i64 a0_0, .int .i64 a0_1, .int .i64 a0_2, .slice A0_3 l0_3.length c0_3] 124 (0, 0)) (by (with_reducible repeat (first | refine blk_drewN ?_ _ | refine blk_drew ?_ | refine blk_alloc ?_ _)); refine blk_far ?_ NB149_151.out _; (with_reducible repeat (first | refine blk_drewN ?_ _ | refine blk_drew ?_ | refine blk_alloc ?_ _)); refine blk_far ?_ NB149_151.out _; (with_reducible repeat (first | refine blk_drewN ?_ _ | refine blk_drew ?_ | refine blk_alloc ?_ _)); refine blk_far ?_ NB149_151.out _; (with_reducible repeat (first | refine blk_drewN ?_ _ | refine blk_drew ?_ | refine blk_alloc ?_ _)); refine blk_far ?_ NB149_151.out _; (with_reducible repeat (first | refine blk_drewN ?_ _ | refine blk_drew ?_ | refine blk_alloc ?_ _)); exact BK149.out) hb); have n2_ := Aside0.mk (blk_below (g := gb150) (o := .cells #[.int .i64 0, .int .i64 0, .int .i64 0, .slice none 0 0] 124 (0, 0)) (by (with_reducible repeat (first | refine blk_drewN ?_ _ | refine blk_drew ?_ | refine blk_alloc ?_ _)); refine blk_far ?_ NB150_151.out _; (with_reducible repeat (first | refine blk_drewN ?_ _ | refine blk_drew ?_ | refine blk_alloc ?_ _)); refine blk_far ?_ NB150_151.out _; (with_reducible repeat (first | refine blk_drewN ?_ _ | refine blk_drew ?_ | refine blk_alloc ?_ _)); refine blk_far ?_ NB150_151.out _; (with_reducible repeat (first | refine blk_drewN ?_ _ | refine blk_drew ?_ | refine blk_alloc ?_ _)); refine blk_far ?_ NB150_151.out _; (with_reducible repeat (first | refine blk_drewN ?_ _ | refine blk_drew ?_ | refine blk_alloc ?_ _)); exact BK150.out) hb); have n3_ := Aside0.mk (blk_below (g := gb151) (o := .cells #[.int .i64 a0_0, .int .i64 a0_1, .int .i64 a0_2, .slice A0_3 l0_3.length c0_3] 124 (0, 0)) (by (with_reducible repeat (first | refine blk_drewN ?_ _ | refine blk_drew ?_ | refine blk_alloc ?_ _)); refine blk_put (cs := #[.int .i64 a0_0, .int .i64 a0_1, .int .i64 a0_2, .slice none 0 0]) ?_ 3 _ rfl; (with_reducible repeat (first | refine blk_drewN ?_ _ | refine blk_drew ?_ | refine blk_alloc ?_ _)); refine blk_put (cs := #[.int .i64 a0_0, .int .i64 a0_1, .int .i64 0, .slice none 0 0]) ?_ 2 _ rfl; (with_reducible repeat (first | refine blk_drewN ?_ _ | refine blk_drew ?_ | refine blk_alloc ?_ _)); refine blk_put (cs := #[.int .i64 a0_0, .int .i64 0, .int .i64 0, .slice none 0 0]) ?_ 1 _ rfl; (with_reducible repeat (first | refine blk_drewN ?_ _ | refine blk_drew ?_ | refine blk_alloc ?_ _)); refine blk_put (cs := #[.int .i64 0, .int .i64 0, .int .i64 0, .slice none 0 0]) ?_ 0 _ rfl; (with_reducible repeat (first | refine blk_drewN ?_ _ | refine blk_drew ?_ | refine blk_alloc ?_ _)); exact BK151.out) hb); have n4_ := Aside0.mk (below_step (by repeat (first | (with_reducible first | exact HB.out | apply below_alloc | apply pw_below_drewN | apply below_drew1 | refine below_set ?_ GE149.out | refine below_set ?_ GE150.out | refine below_set ?_ GE151.out) | exact HB.out)) hb); clear BK149; clear BK150; clear BK151; clear HB; have HO154 := n0_; have BK149 := n1_; have BK150 := n2_; have BK151 := n3_; have HB := n4_; clear n0_ n1_ n2_ n3_ n4_; (try clear hb); (try clear hb2); (try clear hk); (try clear hi); (try clear ho0); obtain ⟨Ao13, co13, eo13⟩ := Kd.R_slice HO154.out; subst eo13; have hcz14_0 : w12.cell? ⟨gb151, 0, none⟩ = some (.int .i64 a0_0) := (blk_cell BK151.out 0).trans rfl; have hcz14_1 : w12.cell? ⟨gb151, 1, none⟩ = some (.int .i64 a0_1) := (blk_cell BK151.out 1).trans rfl; have hcz14_2 : w12.cell? ⟨gb151, 2, none⟩ = some (.int .i64 a0_2) := (blk_cell BK151.out 2).trans rfl; have hcz14_3 : w12.cell? ⟨gb151, 3, none⟩ = some (.slice A0_3 l0_3.length c0_3) := (blk_cell BK151.out 3).trans rfl; have hfz14_0 := blk_frozen BK151.out 0; have hfz14_1 := blk_frozen BK151.out 1; have hfz14_2 := blk_frozen BK151.out 2; have hfz14_3 := blk_frozen BK151.out 3; have hcz15_0 : w12.cell? ⟨gb150, 0, none⟩ = some (.int .i64 0) := (blk_cell BK150.out 0).trans rfl; have hcz15_1 : w12.cell? ⟨gb150, 1, none⟩ = some (.int .i64 0) := (blk_cell BK150.out 1).trans rfl; have hcz15_2 : w12.cell? ⟨gb150, 2, none⟩ = some (.int .i64 0) := (blk_cell BK150.out 2).trans rfl; have hcz15_3 : w12.cell? ⟨gb150, 3, none⟩ = some (.slice none 0 0) := (blk_cell BK150.out 3).trans rfl; have hfz15_0 := blk_frozen BK150.out 0; have hfz15_1 := blk_frozen BK150.out 1; have hfz15_2 := blk_frozen BK150.out 2; have hfz15_3 := blk_frozen BK150.out 3))
  refine bodyPost_ret (results_cell_row rfl _ _ gb150 124 #[.int .i64 a0_0, .int .i64 a0_1, .int .i64 a0_2, .slice Ao13 t152.length co13] (0, 0) _ rfl (by (with_reducible repeat (first | refine blk_drewN ?_ _ | refine blk_drew ?_ | refine blk_alloc ?_ _)); refine blk_put (cs := #[.int .i64 a0_0, .int .i64 a0_1, .int .i64 a0_2, .slice none 0 0]) ?_ 3 _ rfl; (with_reducible repeat (first | refine blk_drewN ?_ _ | refine blk_drew ?_ | refine blk_alloc ?_ _)); refine blk_put (cs := #[.int .i64 a0_0, .int .i64 a0_1, .int .i64 0, .slice none 0 0]) ?_ 2 _ rfl; (with_reducible repeat (first | refine blk_drewN ?_ _ | refine blk_drew ?_ | refine blk_alloc ?_ _)); refine blk_put (cs := #[.int .i64 a0_0, .int .i64 0, .int .i64 0, .slice none 0 0]) ?_ 1 _ rfl; (with_reducible repeat (first | refine blk_drewN ?_ _ | refine blk_drew ?_ | refine blk_alloc ?_ _)); refine blk_put (cs := #[.int .i64 0, .int .i64 0, .int .i64 0, .slice none 0 0]) ?_ 0 _ rfl; (with_reducible repeat (first | refine blk_drewN ?_ _ | refine blk_drew ?_ | refine blk_alloc ?_ _)); refine blk_far ?_ NB150_151.out _; (with_reducible repeat (first | refine blk_drewN ?_ _ | refine blk_drew ?_ | refine blk_alloc ?_ _)); exact BK150.out) Try.underlying124 rfl (by kernel_rfl)) rfl ?_
  exact ⟨_, by first | rfl | (simp [errW_none, errW_some] <;> rfl) | (simp [*, errW_none, errW_some] <;> rfl), by (with_reducible repeat (first | apply Kd.R_alloc | apply Kd.R_drewN | apply Kd.R_drew)); exact Kd.R_mono (Kd.R_far (p := ⟨gb150, 3, none⟩) (Kd.R_far (p := ⟨gb150, 2, none⟩) (Kd.R_far (p := ⟨gb150, 1, none⟩) (Kd.R_far (p := ⟨gb150, 0, none⟩) (Kd.R_far (p := ⟨gb151, 3, none⟩) (Kd.R_types (Kd.R_types HO154.out BK151.out (by decide)) BK150.out (by decide)) (fun _ hk => hk.1.2) (.slice Ao13 t152.length co13)) (fun _ hk => hk.2) (.int .i64 a0_0)) (fun _ hk => hk.2) (.int .i64 a0_1)) (fun _ hk => hk.2) (.int .i64 a0_2)) (fun _ hk => hk.2) (.slice Ao13 t152.length co13)) (fun _ hk => trivial), by repeat (first | (with_reducible first | exact HB.out | apply below_alloc | apply pw_below_drewN | apply below_drew1 | refine below_set ?_ GE149.out | refine below_set ?_ GE150.out | refine below_set ?_ GE151.out) | exact HB.out)⟩

/-! ### gantryref0_CopyTypes: function 27 -/
def gantryref0_CopyTypes.l0 : Nat → List (S124) → List (S124) → Int → Option ((List (S124)))
  | 0, _, _, _ => none
  | k + 1, x0, x3, x4 => if x4 < (x0.length : Int) then (if 0 ≤ x4 then ((gantryref0_CopyType.f ((rd_T124 x0 x4).f0) ((rd_T124 x0 x4).f1) ((rd_T124 x0 x4).f2) ((rd_T124 x0 x4).f3)).bind fun bt156 => (if x3.length < 2932031007402 then (gantryref0_CopyTypes.l0 k x0 (x3 ++ [(⟨bt156.1, bt156.2.1, bt156.2.2.1, bt156.2.2.2⟩ : S124)]) (wrap64 (x4 + 1))) else (none))) else (none)) else (some x3)
def gantryref0_CopyTypes.f (k : Nat) (l0 : List (S124)) : Option ((List (S124))) := gantryref0_CopyTypes.l0 k l0 ([] : List (S124)) 0
theorem gantryref0_CopyTypes.mono_l : ∀ k, (∀ y0 y1 y2, LeO (gantryref0_CopyTypes.l0 k y0 y1 y2) (gantryref0_CopyTypes.l0 (k + 1) y0 y1 y2))
  | 0 => fun _ _ _ r h => by simp [gantryref0_CopyTypes.l0] at h
  | k + 1 => by
    have ih0 := gantryref0_CopyTypes.mono_l k
    · intro y0 y1 y2
      unfold gantryref0_CopyTypes.l0
      repeat' first
      | (with_reducible exact ih0 _ _ _)
      | (with_reducible exact LeO.refl _)
      | (with_reducible exact LeO.none _)
      | (with_reducible refine LeO.ite ?_ ?_)
      | (with_reducible refine LeO.bind ?_ (fun _ => ?_))
      | exact ih0 _ _ _
      | exact LeO.none _
      | refine LeO.ite ?_ ?_
      | refine LeO.bind ?_ (fun _ => ?_)
theorem gantryref0_CopyTypes.mono : ∀ a0 k, LeO (gantryref0_CopyTypes.f k a0) (gantryref0_CopyTypes.f (k + 1) a0) := by
  intro a0 k
  have ih0 := gantryref0_CopyTypes.mono_l k
  unfold gantryref0_CopyTypes.f
  repeat' first
      | (with_reducible exact ih0 _ _ _)
      | (with_reducible exact LeO.refl _)
      | (with_reducible exact LeO.none _)
      | (with_reducible refine LeO.ite ?_ ?_)
      | (with_reducible refine LeO.bind ?_ (fun _ => ?_))
      | exact ih0 _ _ _
      | exact LeO.none _
      | refine LeO.ite ?_ ?_
      | refine LeO.bind ?_ (fun _ => ?_)
set_option maxHeartbeats 8000000 in
set_option maxRecDepth 100000 in
theorem gantryref0_CopyTypes.calls (k : Nat) (A0 : Option Addr) (c0 : Nat) (l0 : List (S124)) (r : List (S124)) (w : World) (hr0 : Kd.C k124 w A0 l0.length l0) (hc0 : l0.length ≤ c0) (h : gantryref0_CopyTypes.f k l0 = some r) :
    Calls Try.prog 27 #[.slice A0 l0.length c0] w fun e w' => ∃ v0_ : Value, e = .returned (v0_) ∧ Kd.S k124 124 w' w.heap.size (fun _ => True) v0_ r ∧ Below w.heap.size w w' := by
  have hu124 := Try.underlying124
  have HR0 := Aside0.mk hr0
  have HC0 := Aside0.mk hc0
  clear hr0 hc0
  have HB := Aside0.mk (Below.refl w.heap.size w)
  have H : (gantryref0_CopyTypes.l0 k l0 ([] : List (S124)) 0) = some r := h
  clear h
  have H' := Aside0.mk H
  clear H
  go_enter Try.func27, Try.ntmps27
  go_wp2
  go_loopg [3, 4] k (fun kq v3 v4 w' => ∃ (x3_1 : List (S124)) (x4_1 : Int), v4 = .int .i64 x4_1 ∧ Aside0 (gantryref0_CopyTypes.l0 kq l0 x3_1 x4_1 = some r) ∧ Aside0 (kq ≤ k) ∧ Aside0 (Kd.S k124 124 w' w.heap.size (fun _ => True) v3 x3_1) ∧ Aside0 (Below w.heap.size w w'))
  case atStart => exact ⟨(([] : List (S124))), (0), (by first | rfl | (simp; done) | (simp [*]; done)), H', ⟨Nat.le_refl _⟩, ⟨by first | exact Kd.S_nil _ _ _ _ _ | exact Kd.N_nil _ _ _ _ _ | exact Kd.V_nil _ _ _ _ _ | exact Kd.Q_nil _ _ _ _ _ | exact Kd.R_nil _ _ _ _ _⟩, ⟨by repeat (first | (with_reducible first | exact HB.out | apply below_alloc | apply pw_below_drewN | apply below_drew1) | exact HB.out)⟩⟩
  case round =>
    clear H'
    obtain ⟨x3_1, x4_1, rfl, HA, HK1, HO_3, HB⟩ := hrel
    cases gk with
    | zero => exact absurd HA.out (by simp [gantryref0_CopyTypes.l0])
    | succ k1 =>
      have H := HA.out
      clear HA
      simp only [gantryref0_CopyTypes.l0] at H
      by_cases c2 : x4_1 < (l0.length : Int)
      · rw [if_pos c2] at H
        have c2b0 : decide (x4_1 < (l0.length : Int)) = true := decide_eq_true c2
        clear c2
        by_cases c3 : 0 ≤ x4_1
        · rw [if_pos c3] at H
          have c3b0 : decide (0 ≤ x4_1) = true := decide_eq_true c3
          clear c3
          replace H := Option.bind_eq_some_iff.mp H
          obtain ⟨⟨t156, t157, t158, t159⟩, A40, H⟩ := H
          replace H : (if x3_1.length < 2932031007402 then (gantryref0_CopyTypes.l0 k1 l0 (x3_1 ++ [(⟨t156, t157, t158, t159⟩ : S124)]) (wrap64 (x4_1 + 1))) else (none)) = some r := H
          have A4 := Aside0.mk A40
          clear A40
          by_cases c5 : x3_1.length < 2932031007402
          · rw [if_pos c5] at H
            have LMc5 := Aside0.mk c5
            clear c5
            obtain ⟨y162, hy162⟩ : ∃ y_ : List (S124), y_ = (x3_1 ++ [(⟨t156, t157, t158, t159⟩ : S124)]) := ⟨_, rfl⟩
            replace H : (gantryref0_CopyTypes.l0 k1 l0 y162 (wrap64 (x4_1 + 1))) = some r := by first | (rw [hy162]; with_reducible exact H) | (have H2_ := (Option.bind_some _ _).symm.trans H; rw [hy162]; with_reducible exact H2_) | (have H2_ := (Option.bind_some _ _).symm.trans H; with_reducible exact H2_) | with_reducible exact H | (rw [hy162]; exact H) | exact H
            have Ny162 := Aside0.mk hy162
            clear hy162
            have H' := Aside0.mk H
            clear H
            have p155 : 0 ≤ (x4_1 : Int) := of_decide_eq_true (by first | (with_reducible assumption) | assumption)
            have q155 : x4_1 < (l0.length : Int) := of_decide_eq_true (by first | (with_reducible assumption) | assumption)
            obtain ⟨ad155, A155_3, c155_3, e155, hx155_0, hx155_1, hx155_2, hx155_3, hl155_3, hi155_3⟩ := at_T124 HR0.out x4_1 p155 q155
            cases e155
            replace hx155_0 := (HB.out.cell (World.block_lt_of_cell? w _ hx155_0)).trans hx155_0
            replace hx155_1 := (HB.out.cell (World.block_lt_of_cell? w _ hx155_1)).trans hx155_1
            replace hx155_2 := (HB.out.cell (World.block_lt_of_cell? w _ hx155_2)).trans hx155_2
            replace hx155_3 := (HB.out.cell (World.block_lt_of_cell? w _ hx155_3)).trans hx155_3
            have HR155_3 := Aside0.mk hi155_3
            have HC155_3 := Aside0.mk hl155_3
            clear hi155_3 hl155_3
            replace p155 := eq_true p155
            replace q155 := eq_true q155
            go_wp2_with (first | ((with_reducible refine gate_callee (f := 81) rfl ?_); refine goesL_ (some 16) rfl rfl Try.func81 (by kernel_rfl) rfl #[.agg #[.int .i64 ((rd_T124 l0 x4_1).f0), .int .i64 ((rd_T124 l0 x4_1).f1), .int .i64 ((rd_T124 l0 x4_1).f2), .slice A155_3 ((rd_T124 l0 x4_1).f3).length c155_3]] rfl (by (try simp only [List.map_toArray, List.map_cons, List.map_nil]); first | done | rfl | (simp only [List.length_drop, List.length_take]; rfl)) ?_; (with_reducible refine (gantryref0_CopyType.calls ((rd_T124 l0 x4_1).f0) ((rd_T124 l0 x4_1).f1) ((rd_T124 l0 x4_1).f2) _ _ ((rd_T124 l0 x4_1).f3) t156 t157 t158 t159 _ ?side1 ?side2 A4.out).mono ?_); (case side1 => repeat (first | exact (Kd.C_below HR155_3.out HB.out) | (with_reducible refine Kd.C_alloc ?_ _) | (with_reducible refine Kd.C_drewN ?_ _) | (with_reducible refine Kd.C_drew ?_))); (case side2 => exact HC155_3.out); rintro e w6 ⟨v160, rfl, ho0, hb⟩; refine ⟨_, rfl, ?_⟩; have n0_ := Aside0.mk (Kd.S_elder' (by (with_reducible repeat (first | apply Kd.S_alloc | apply Kd.S_drewN | apply Kd.S_drew)); exact HO_3.out) (Kd.R_base ho0) hb); have n1_ := Aside0.mk (Kd.R_lower ho0 (below_size (by repeat (first | (with_reducible first | exact HB.out | apply below_alloc | apply pw_below_drewN | apply below_drew1) | exact HB.out)))); have n2_ := Aside0.mk (below_step (by repeat (first | (with_reducible first | exact HB.out | apply below_alloc | apply pw_below_drewN | apply below_drew1) | exact HB.out)) hb); clear HO_3; clear HB; have HO_3 := n0_; have HO161 := n1_; have HB := n2_; clear n0_ n1_ n2_; (try clear hb); (try clear hb2); (try clear hk); (try clear hi); (try clear ho0); obtain ⟨Ao8, co8, eo8⟩ := Kd.R_slice HO161.out; subst eo8) | ((with_reducible refine gate_builtin (b := .append) (xs := #[.tmp 11, .tmp 17]) rfl ?_); at_builtin; refine Kd.S_append k124 (w0 := w) w.heap.size rfl (.tmp 11) (.tmp 17) 54 124 (.agg #[(.int .i64 0), (.int .i64 0), (.int .i64 0), (.slice none 0 0)]) 48 rfl Try.underlying54 info124 rfl (by decide) (by omega) u3 x3_1 (⟨t156, t157, t158, t159⟩ : S124) [.int .i64 t156, .int .i64 t157, .int .i64 t158, .slice Ao8 t159.length co8] (fun _ => True) (fun k_ => some k_ = (.slice Ao8 t159.length co8 : Value).ownBlock) rfl rfl ?aP (fun k_ hk_ => ((Kd.R_mono (ok' := fun k_ => ((fun _ => True)) k_ ∧ some k_ ≠ (u3 : Value).ownBlock) (Kd.R_apart' (HO161.out) (Kd.S_typed HO_3.out) (by decide)) (fun k_ hk => ⟨trivial, hk.2⟩))).1 k_ hk_.symm) ?aF ?aO ?aB ?aS ?aL ?_; (case aP => exact k124_mkM _ _ _ (⟨t156, t157, t158, t159⟩ : S124) (Kd.R_mono (Kd.R_tight rfl (Kd.R_mono (ok' := fun k_ => ((fun _ => True)) k_ ∧ some k_ ≠ (u3 : Value).ownBlock) (Kd.R_apart' (HO161.out) (Kd.S_typed HO_3.out) (by decide)) (fun k_ hk => ⟨trivial, hk.2⟩))) (fun _ h_ => h_))); (case aB => exact (by repeat (first | (with_reducible first | exact HB.out | apply below_alloc | apply pw_below_drewN | apply below_drew1) | exact HB.out))); (case aF => exact (fun _ _ => trivial)); (case aO => exact (by (with_reducible repeat (first | apply Kd.S_alloc | apply Kd.S_drewN | apply Kd.S_drew)); exact Kd.S_mono HO_3.out (fun k_ hk => ⟨trivial, fun e_ => hk.2 e_⟩))); (case aS => exact (below_size (by repeat (first | (with_reducible first | exact HB.out | apply below_alloc | apply pw_below_drewN | apply below_drew1) | exact HB.out)))); (case aL => have := LMc5.out; omega); intro v163 w7 ho hb hg hat; rw [← Ny162.out] at ho; have n0_ := Aside0.mk (hb); have n1_ := Aside0.mk (ho); clear HB; clear HO_3; clear HO161; have HB := n0_; have HO164 := n1_; clear n0_ n1_; clear ho hb hg hat))
            go_roundg k1
            case measure => have := HK1.out; omega
            case rel => exact ⟨(y162), (wrap64 (x4_1 + 1)), (by first | rfl | (simp; done) | (simp [*]; done)), H', ⟨by have := HK1.out; omega⟩, ⟨by (with_reducible repeat (first | apply Kd.S_alloc | apply Kd.S_drewN | apply Kd.S_drew)); exact HO164.out⟩, ⟨by repeat (first | (with_reducible first | exact HB.out | apply below_alloc | apply pw_below_drewN | apply below_drew1) | exact HB.out)⟩⟩
          · rw [if_neg c5] at H
            exact absurd H (by simp)
        · rw [if_neg c3] at H
          exact absurd H (by simp)
      · rw [if_neg c2] at H
        have c2b0 : decide (x4_1 < (l0.length : Int)) = false := decide_eq_false c2
        clear c2
        obtain rfl := Option.some.inj H
        go_wp2
        go_ret
        exact ⟨_, by first | rfl | (simp [errW_none, errW_some] <;> rfl) | (simp [*, errW_none, errW_some] <;> rfl), by (with_reducible repeat (first | apply Kd.S_alloc | apply Kd.S_drewN | apply Kd.S_drew)); exact HO_3.out, by repeat (first | (with_reducible first | exact HB.out | apply below_alloc | apply pw_below_drewN | apply below_drew1) | exact HB.out)⟩

-- NOT PRINTED: function 82 (types_entry)

/-! ### gantrylaw7_fields: function 30 -/
def gantrylaw7_fields.l0 : Nat → List (S124) → Int → Int → Int → Int → Int → Option (Bool)
  | 0, _, _, _, _, _, _ => none
  | k + 1, x0, x1, x2, x3, x9, x10 => if 0 ≤ x1 then (if x1 < (x0.length : Int) then (if x10 < (((rd_T124 x0 x1).f3).length : Int) then ((types_Offset.f x0 x1 x10).bind fun bt168 => (if 0 ≤ x10 then ((types_Size.f x0 (rd ((rd_T124 x0 x1).f3) x10)).bind fun bt172 => ((types_Align.f x0 (rd ((rd_T124 x0 x1).f3) x10)).bind fun bt176 => ((gantrylaw7_num.f bt168.2).bind fun t178 => (if t178 = 0 then (if bt176.1 < 1 then (some false) else (if bt168.1 < x9 then (some false) else (if (wrap64 (bt168.1 - x9)) ≥ bt176.1 then (some false) else (if bt176.1 = 0 then (none) else (if (Int.tmod bt168.1 bt176.1) = 0 then (if (Int.tmod x3 bt176.1) = 0 then (if (wrap64 (bt168.1 + bt172.1)) > x2 then (some false) else (gantrylaw7_fields.l0 k x0 x1 x2 x3 (wrap64 (bt168.1 + bt172.1)) (wrap64 (x10 + 1)))) else (some false)) else (some false)))))) else (some false))))) else (none))) else (some (decide ((wrap64 (x2 - x9)) < x3)))) else (none)) else (none)
def gantrylaw7_fields.f (k : Nat) (l0 : List (S124)) (a1 : Int) (a2 : Int) (a3 : Int) : Option (Bool) := if 0 ≤ a1 then (if a1 < (l0.length : Int) then (if ((rd_T124 l0 a1).f0) = 13 then (gantrylaw7_fields.l0 k l0 a1 a2 a3 0 0) else (some true)) else (none)) else (none)
theorem gantrylaw7_fields.mono_l : ∀ k, (∀ y0 y1 y2 y3 y4 y5, LeO (gantrylaw7_fields.l0 k y0 y1 y2 y3 y4 y5) (gantrylaw7_fields.l0 (k + 1) y0 y1 y2 y3 y4 y5))
  | 0 => fun _ _ _ _ _ _ r h => by simp [gantrylaw7_fields.l0] at h
  | k + 1 => by
    have ih0 := gantrylaw7_fields.mono_l k
    · intro y0 y1 y2 y3 y4 y5
      unfold gantrylaw7_fields.l0
      repeat' first
      | (with_reducible exact ih0 _ _ _ _ _ _)
      | (with_reducible exact LeO.refl _)
      | (with_reducible exact LeO.none _)
      | (with_reducible refine LeO.ite ?_ ?_)
      | (with_reducible refine LeO.bind ?_ (fun _ => ?_))
      | exact ih0 _ _ _ _ _ _
      | exact LeO.none _
      | refine LeO.ite ?_ ?_
      | refine LeO.bind ?_ (fun _ => ?_)
theorem gantrylaw7_fields.mono : ∀ a0 a1 a2 a3 k, LeO (gantrylaw7_fields.f k a0 a1 a2 a3) (gantrylaw7_fields.f (k + 1) a0 a1 a2 a3) := by
  intro a0 a1 a2 a3 k
  have ih0 := gantrylaw7_fields.mono_l k
  unfold gantrylaw7_fields.f
  repeat' first
      | (with_reducible exact ih0 _ _ _ _ _ _)
      | (with_reducible exact LeO.refl _)
      | (with_reducible exact LeO.none _)
      | (with_reducible refine LeO.ite ?_ ?_)
      | (with_reducible refine LeO.bind ?_ (fun _ => ?_))
      | exact ih0 _ _ _ _ _ _
      | exact LeO.none _
      | refine LeO.ite ?_ ?_
      | refine LeO.bind ?_ (fun _ => ?_)
set_option maxHeartbeats 8000000 in
set_option maxRecDepth 100000 in
theorem gantrylaw7_fields.calls (k : Nat) (A0 : Option Addr) (c0 : Nat) (l0 : List (S124)) (a1 : Int) (a2 : Int) (a3 : Int) (r : Bool) (w : World) (hr0 : Kd.C k124 w A0 l0.length l0) (hc0 : l0.length ≤ c0) (h : gantrylaw7_fields.f k l0 a1 a2 a3 = some r) :
    Calls Try.prog 30 #[.slice A0 l0.length c0, .int .i64 a1, .int .i64 a2, .int .i64 a3] w fun e w' => e = .returned (.bool r) ∧ Below w.heap.size w w' := by
  have HR0 := Aside0.mk hr0
  have HC0 := Aside0.mk hc0
  clear hr0 hc0
  have HB := Aside0.mk (Below.refl w.heap.size w)
  have H : (if 0 ≤ a1 then (if a1 < (l0.length : Int) then (if ((rd_T124 l0 a1).f0) = 13 then (gantrylaw7_fields.l0 k l0 a1 a2 a3 0 0) else (some true)) else (none)) else (none)) = some r := h
  clear h
  by_cases c5 : 0 ≤ a1
  · rw [if_pos c5] at H
    have c5b0 : decide (0 ≤ a1) = true := decide_eq_true c5
    clear c5
    by_cases c6 : a1 < (l0.length : Int)
    · rw [if_pos c6] at H
      have c6b0 : decide (a1 < (l0.length : Int)) = true := decide_eq_true c6
      clear c6
      by_cases c7 : ((rd_T124 l0 a1).f0) = 13
      · rw [if_pos c7] at H
        have c7b0 : (((rd_T124 l0 a1).f0) == 13) = true := beq_iff_eq.mpr c7
        have c7b1 : (((rd_T124 l0 a1).f0) != 13) = false := bne_eq_false_iff_eq.mpr c7
        clear c7
        have H' := Aside0.mk H
        clear H
        have p166 : 0 ≤ (a1 : Int) := of_decide_eq_true (by first | (with_reducible assumption) | assumption)
        have q166 : a1 < (l0.length : Int) := of_decide_eq_true (by first | (with_reducible assumption) | assumption)
        obtain ⟨ad166, A166_3, c166_3, e166, hx166_0, hx166_1, hx166_2, hx166_3, hl166_3, hi166_3⟩ := at_T124 HR0.out a1 p166 q166
        cases e166
        have HR166_3 := Aside0.mk hi166_3
        have HC166_3 := Aside0.mk hl166_3
        clear hi166_3 hl166_3
        replace p166 := eq_true p166
        replace q166 := eq_true q166
        go_enter Try.func30, Try.ntmps30
        go_wp2
        go_loopg [9, 10] k (fun kq v9 v10 w' => ∃ (x9_1 : Int) (x10_1 : Int), v9 = .int .i64 x9_1 ∧ v10 = .int .i64 x10_1 ∧ Aside0 (gantrylaw7_fields.l0 kq l0 a1 a2 a3 x9_1 x10_1 = some r) ∧ Aside0 (kq ≤ k) ∧ Aside0 (Below w.heap.size w w'))
        case atStart => exact ⟨(0), (0), (by first | rfl | (simp; done) | (simp [*]; done)), (by first | rfl | (simp; done) | (simp [*]; done)), H', ⟨Nat.le_refl _⟩, ⟨by repeat (first | (with_reducible first | exact HB.out | apply below_alloc | apply pw_below_drewN | apply below_drew1) | exact HB.out)⟩⟩
        case round =>
          clear H'
          try clear c1
          try clear p1
          try clear q1
          try clear hx1
          try clear p2
          try clear c3
          try clear c5
          try clear c5b0
          try clear c6
          try clear c6b0
          try clear c7
          try clear c7b0
          try clear c7b1
          try clear hx166_0
          try clear hx166_1
          try clear hx166_2
          try clear hx166_3
          try clear p166
          try clear q166
          obtain ⟨x9_1, x10_1, rfl, rfl, HA, HK1, HB⟩ := hrel
          cases gk with
          | zero => exact absurd HA.out (by simp [gantrylaw7_fields.l0])
          | succ k1 =>
            have H := HA.out
            clear HA
            simp only [gantrylaw7_fields.l0] at H
            by_cases c8 : 0 ≤ a1
            · rw [if_pos c8] at H
              have c8b0 : decide (0 ≤ a1) = true := decide_eq_true c8
              clear c8
              by_cases c9 : a1 < (l0.length : Int)
              · rw [if_pos c9] at H
                have c9b0 : decide (a1 < (l0.length : Int)) = true := decide_eq_true c9
                clear c9
                by_cases c10 : x10_1 < (((rd_T124 l0 a1).f3).length : Int)
                · rw [if_pos c10] at H
                  have c10b0 : decide (x10_1 < (((rd_T124 l0 a1).f3).length : Int)) = true := decide_eq_true c10
                  clear c10
                  replace H := Option.bind_eq_some_iff.mp H
                  obtain ⟨⟨t168, t169⟩, A110, H⟩ := H
                  replace H : (if 0 ≤ x10_1 then ((types_Size.f l0 (rd ((rd_T124 l0 a1).f3) x10_1)).bind fun bt172 => ((types_Align.f l0 (rd ((rd_T124 l0 a1).f3) x10_1)).bind fun bt176 => ((gantrylaw7_num.f t169).bind fun t178 => (if t178 = 0 then (if bt176.1 < 1 then (some false) else (if t168 < x9_1 then (some false) else (if (wrap64 (t168 - x9_1)) ≥ bt176.1 then (some false) else (if bt176.1 = 0 then (none) else (if (Int.tmod t168 bt176.1) = 0 then (if (Int.tmod a3 bt176.1) = 0 then (if (wrap64 (t168 + bt172.1)) > a2 then (some false) else (gantrylaw7_fields.l0 k1 l0 a1 a2 a3 (wrap64 (t168 + bt172.1)) (wrap64 (x10_1 + 1)))) else (some false)) else (some false)))))) else (some false))))) else (none)) = some r := H
                  have A11 := Aside0.mk A110
                  clear A110
                  by_cases c12 : 0 ≤ x10_1
                  · rw [if_pos c12] at H
                    have c12b0 : decide (0 ≤ x10_1) = true := decide_eq_true c12
                    clear c12
                    replace H := Option.bind_eq_some_iff.mp H
                    obtain ⟨⟨t172, t173⟩, A130, H⟩ := H
                    replace H : ((types_Align.f l0 (rd ((rd_T124 l0 a1).f3) x10_1)).bind fun bt176 => ((gantrylaw7_num.f t169).bind fun t178 => (if t178 = 0 then (if bt176.1 < 1 then (some false) else (if t168 < x9_1 then (some false) else (if (wrap64 (t168 - x9_1)) ≥ bt176.1 then (some false) else (if bt176.1 = 0 then (none) else (if (Int.tmod t168 bt176.1) = 0 then (if (Int.tmod a3 bt176.1) = 0 then (if (wrap64 (t168 + t172)) > a2 then (some false) else (gantrylaw7_fields.l0 k1 l0 a1 a2 a3 (wrap64 (t168 + t172)) (wrap64 (x10_1 + 1)))) else (some false)) else (some false)))))) else (some false)))) = some r := H
                    have A13 := Aside0.mk A130
                    clear A130
                    replace H := Option.bind_eq_some_iff.mp H
                    obtain ⟨⟨t176, t177⟩, A140, H⟩ := H
                    replace H : ((gantrylaw7_num.f t169).bind fun t178 => (if t178 = 0 then (if t176 < 1 then (some false) else (if t168 < x9_1 then (some false) else (if (wrap64 (t168 - x9_1)) ≥ t176 then (some false) else (if t176 = 0 then (none) else (if (Int.tmod t168 t176) = 0 then (if (Int.tmod a3 t176) = 0 then (if (wrap64 (t168 + t172)) > a2 then (some false) else (gantrylaw7_fields.l0 k1 l0 a1 a2 a3 (wrap64 (t168 + t172)) (wrap64 (x10_1 + 1)))) else (some false)) else (some false)))))) else (some false))) = some r := H
                    have A14 := Aside0.mk A140
                    clear A140
                    replace H := Option.bind_eq_some_iff.mp H
                    obtain ⟨t178, A150, H⟩ := H
                    replace H : (if t178 = 0 then (if t176 < 1 then (some false) else (if t168 < x9_1 then (some false) else (if (wrap64 (t168 - x9_1)) ≥ t176 then (some false) else (if t176 = 0 then (none) else (if (Int.tmod t168 t176) = 0 then (if (Int.tmod a3 t176) = 0 then (if (wrap64 (t168 + t172)) > a2 then (some false) else (gantrylaw7_fields.l0 k1 l0 a1 a2 a3 (wrap64 (t168 + t172)) (wrap64 (x10_1 + 1)))) else (some false)) else (some false)))))) else (some false)) = some r := H
                    have A15 := Aside0.mk A150
                    clear A150
                    by_cases c16 : t178 = 0
                    · rw [if_pos c16] at H
                      have c16b0 : (t178 == 0) = true := beq_iff_eq.mpr c16
                      have c16b1 : (t178 != 0) = false := bne_eq_false_iff_eq.mpr c16
                      clear c16
                      by_cases c17 : t176 < 1
                      · rw [if_pos c17] at H
                        have c17b0 : decide (t176 < 1) = true := decide_eq_true c17
                        clear c17
                        obtain rfl := Option.some.inj H
                        have p167 : 0 ≤ (a1 : Int) := of_decide_eq_true (by first | (with_reducible assumption) | assumption)
                        have q167 : a1 < (l0.length : Int) := of_decide_eq_true (by first | (with_reducible assumption) | assumption)
                        obtain ⟨ad167, A167_3, c167_3, e167, hx167_0, hx167_1, hx167_2, hx167_3, hl167_3, hi167_3⟩ := at_T124 HR0.out a1 p167 q167
                        obtain rfl : ad166 = ad167 := (by injection e167)
                        replace hx167_0 := (HB.out.cell (World.block_lt_of_cell? w _ hx167_0)).trans hx167_0
                        replace hx167_1 := (HB.out.cell (World.block_lt_of_cell? w _ hx167_1)).trans hx167_1
                        replace hx167_2 := (HB.out.cell (World.block_lt_of_cell? w _ hx167_2)).trans hx167_2
                        replace hx167_3 := (HB.out.cell (World.block_lt_of_cell? w _ hx167_3)).trans hx167_3
                        have HR167_3 := Aside0.mk hi167_3
                        have HC167_3 := Aside0.mk hl167_3
                        clear hi167_3 hl167_3
                        replace p167 := eq_true p167
                        replace q167 := eq_true q167
                        go_wp2_with (first | ((with_reducible refine gate_callee (f := 83) rfl ?_); refine goesL_ (some 37) rfl rfl Try.func83 (by kernel_rfl) rfl #[.slice (some ad166) l0.length c0, .int .i64 a1, .int .i64 x10_1] rfl (by (try simp only [List.map_toArray, List.map_cons, List.map_nil]); first | done | rfl | (simp only [List.length_drop, List.length_take]; rfl)) ?_; (with_reducible refine (types_Offset.calls _ _ l0 a1 x10_1 t168 t169 _ ?side1 ?side2 A11.out).mono ?_); (case side1 => repeat (first | exact (Kd.C_below HR0.out HB.out) | (with_reducible refine Kd.C_alloc ?_ _) | (with_reducible refine Kd.C_drewN ?_ _) | (with_reducible refine Kd.C_drew ?_))); (case side2 => exact HC0.out); rintro e w18 ⟨rfl, hb⟩; refine ⟨_, rfl, ?_⟩; have n0_ := Aside0.mk (below_step (by repeat (first | (with_reducible first | exact HB.out | apply below_alloc | apply pw_below_drewN | apply below_drew1) | exact HB.out)) hb); clear HB; have HB := n0_; clear n0_; (try clear hb); (try clear hb2); (try clear hk); (try clear hi); have p170 : 0 ≤ (a1 : Int) := of_decide_eq_true (by first | (with_reducible assumption) | assumption); have q170 : a1 < (l0.length : Int) := of_decide_eq_true (by first | (with_reducible assumption) | assumption); obtain ⟨ad170, A170_3, c170_3, e170, hx170_0, hx170_1, hx170_2, hx170_3, hl170_3, hi170_3⟩ := at_T124 HR0.out a1 p170 q170; obtain rfl : ad166 = ad170 := (by injection e170); replace hx170_0 := (HB.out.cell (World.block_lt_of_cell? w _ hx170_0)).trans hx170_0; replace hx170_1 := (HB.out.cell (World.block_lt_of_cell? w _ hx170_1)).trans hx170_1; replace hx170_2 := (HB.out.cell (World.block_lt_of_cell? w _ hx170_2)).trans hx170_2; replace hx170_3 := (HB.out.cell (World.block_lt_of_cell? w _ hx170_3)).trans hx170_3; have HR170_3 := Aside0.mk hi170_3; have HC170_3 := Aside0.mk hl170_3; clear hi170_3 hl170_3; replace p170 := eq_true p170; replace q170 := eq_true q170; have p171 : 0 ≤ (x10_1 : Int) := of_decide_eq_true (by first | (with_reducible assumption) | assumption); have q171 : x10_1 < (((rd_T124 l0 a1).f3).length : Int) := of_decide_eq_true (by first | (with_reducible assumption) | assumption); obtain ⟨ad171, e171, hx171_0⟩ := Kd.at_int HR170_3.out x10_1 p171 q171; cases e171; replace hx171_0 := (HB.out.cell (World.block_lt_of_cell? w _ hx171_0)).trans hx171_0; replace p171 := eq_true p171; replace q171 := eq_true q171) | ((with_reducible refine gate_callee (f := 28) rfl ?_); refine goesL_ (some 50) rfl rfl Try.func28 (by kernel_rfl) rfl #[.slice (some ad166) l0.length c0, .int .i64 (rd ((rd_T124 l0 a1).f3) x10_1)] rfl (by (try simp only [List.map_toArray, List.map_cons, List.map_nil]); first | done | rfl | (simp only [List.length_drop, List.length_take]; rfl)) ?_; (with_reducible refine (types_Size.calls _ _ l0 (rd ((rd_T124 l0 a1).f3) x10_1) t172 t173 _ ?side1 ?side2 A13.out).mono ?_); (case side1 => repeat (first | exact (Kd.C_below HR0.out HB.out) | (with_reducible refine Kd.C_alloc ?_ _) | (with_reducible refine Kd.C_drewN ?_ _) | (with_reducible refine Kd.C_drew ?_))); (case side2 => exact HC0.out); rintro e w19 ⟨rfl, hb⟩; refine ⟨_, rfl, ?_⟩; have n0_ := Aside0.mk (below_step (by repeat (first | (with_reducible first | exact HB.out | apply below_alloc | apply pw_below_drewN | apply below_drew1) | exact HB.out)) hb); clear HB; have HB := n0_; clear n0_; (try clear hb); (try clear hb2); (try clear hk); (try clear hi); have p174 : 0 ≤ (a1 : Int) := of_decide_eq_true (by first | (with_reducible assumption) | assumption); have q174 : a1 < (l0.length : Int) := of_decide_eq_true (by first | (with_reducible assumption) | assumption); obtain ⟨ad174, A174_3, c174_3, e174, hx174_0, hx174_1, hx174_2, hx174_3, hl174_3, hi174_3⟩ := at_T124 HR0.out a1 p174 q174; obtain rfl : ad166 = ad174 := (by injection e174); replace hx174_0 := (HB.out.cell (World.block_lt_of_cell? w _ hx174_0)).trans hx174_0; replace hx174_1 := (HB.out.cell (World.block_lt_of_cell? w _ hx174_1)).trans hx174_1; replace hx174_2 := (HB.out.cell (World.block_lt_of_cell? w _ hx174_2)).trans hx174_2; replace hx174_3 := (HB.out.cell (World.block_lt_of_cell? w _ hx174_3)).trans hx174_3; have HR174_3 := Aside0.mk hi174_3; have HC174_3 := Aside0.mk hl174_3; clear hi174_3 hl174_3; replace p174 := eq_true p174; replace q174 := eq_true q174; have p175 : 0 ≤ (x10_1 : Int) := of_decide_eq_true (by first | (with_reducible assumption) | assumption); have q175 : x10_1 < (((rd_T124 l0 a1).f3).length : Int) := of_decide_eq_true (by first | (with_reducible assumption) | assumption); obtain ⟨ad175, e175, hx175_0⟩ := Kd.at_int HR174_3.out x10_1 p175 q175; cases e175; replace hx175_0 := (HB.out.cell (World.block_lt_of_cell? w _ hx175_0)).trans hx175_0; replace p175 := eq_true p175; replace q175 := eq_true q175) | ((with_reducible refine gate_callee (f := 29) rfl ?_); refine goesL_ (some 63) rfl rfl Try.func29 (by kernel_rfl) rfl #[.slice (some ad166) l0.length c0, .int .i64 (rd ((rd_T124 l0 a1).f3) x10_1)] rfl (by (try simp only [List.map_toArray, List.map_cons, List.map_nil]); first | done | rfl | (simp only [List.length_drop, List.length_take]; rfl)) ?_; (with_reducible refine (types_Align.calls _ _ l0 (rd ((rd_T124 l0 a1).f3) x10_1) t176 t177 _ ?side1 ?side2 A14.out).mono ?_); (case side1 => repeat (first | exact (Kd.C_below HR0.out HB.out) | (with_reducible refine Kd.C_alloc ?_ _) | (with_reducible refine Kd.C_drewN ?_ _) | (with_reducible refine Kd.C_drew ?_))); (case side2 => exact HC0.out); rintro e w20 ⟨rfl, hb⟩; refine ⟨_, rfl, ?_⟩; have n0_ := Aside0.mk (below_step (by repeat (first | (with_reducible first | exact HB.out | apply below_alloc | apply pw_below_drewN | apply below_drew1) | exact HB.out)) hb); clear HB; have HB := n0_; clear n0_; (try clear hb); (try clear hb2); (try clear hk); (try clear hi)) | ((with_reducible refine gate_callee (f := 25) rfl ?_); refine goesL_ (some 67) rfl rfl Try.func25 (by kernel_rfl) rfl #[.int .i64 t169] rfl (by (try simp only [List.map_toArray, List.map_cons, List.map_nil]); first | done | rfl | (simp only [List.length_drop, List.length_take]; rfl)) ?_; (with_reducible refine (gantrylaw7_num.calls t169 t178 _ A15.out).mono ?_); rintro e w' ⟨rfl, ⟨nd, rfl⟩⟩; refine ⟨_, rfl, ?_⟩))
                        go_ret
                        exact ⟨by first | rfl | (simp [errW_none, errW_some] <;> rfl) | (simp [*, errW_none, errW_some] <;> rfl), by repeat (first | (with_reducible first | exact HB.out | apply below_alloc | apply pw_below_drewN | apply below_drew1) | exact HB.out)⟩
                      · rw [if_neg c17] at H
                        have c17b0 : decide (t176 < 1) = false := decide_eq_false c17
                        clear c17
                        by_cases c21 : t168 < x9_1
                        · rw [if_pos c21] at H
                          have c21b0 : decide (t168 < x9_1) = true := decide_eq_true c21
                          clear c21
                          obtain rfl := Option.some.inj H
                          have p167 : 0 ≤ (a1 : Int) := of_decide_eq_true (by first | (with_reducible assumption) | assumption)
                          have q167 : a1 < (l0.length : Int) := of_decide_eq_true (by first | (with_reducible assumption) | assumption)
                          obtain ⟨ad167, A167_3, c167_3, e167, hx167_0, hx167_1, hx167_2, hx167_3, hl167_3, hi167_3⟩ := at_T124 HR0.out a1 p167 q167
                          obtain rfl : ad166 = ad167 := (by injection e167)
                          replace hx167_0 := (HB.out.cell (World.block_lt_of_cell? w _ hx167_0)).trans hx167_0
                          replace hx167_1 := (HB.out.cell (World.block_lt_of_cell? w _ hx167_1)).trans hx167_1
                          replace hx167_2 := (HB.out.cell (World.block_lt_of_cell? w _ hx167_2)).trans hx167_2
                          replace hx167_3 := (HB.out.cell (World.block_lt_of_cell? w _ hx167_3)).trans hx167_3
                          have HR167_3 := Aside0.mk hi167_3
                          have HC167_3 := Aside0.mk hl167_3
                          clear hi167_3 hl167_3
                          replace p167 := eq_true p167
                          replace q167 := eq_true q167
                          go_wp2_with (first | ((with_reducible refine gate_callee (f := 83) rfl ?_); refine goesL_ (some 37) rfl rfl Try.func83 (by kernel_rfl) rfl #[.slice (some ad166) l0.length c0, .int .i64 a1, .int .i64 x10_1] rfl (by (try simp only [List.map_toArray, List.map_cons, List.map_nil]); first | done | rfl | (simp only [List.length_drop, List.length_take]; rfl)) ?_; (with_reducible refine (types_Offset.calls _ _ l0 a1 x10_1 t168 t169 _ ?side1 ?side2 A11.out).mono ?_); (case side1 => repeat (first | exact (Kd.C_below HR0.out HB.out) | (with_reducible refine Kd.C_alloc ?_ _) | (with_reducible refine Kd.C_drewN ?_ _) | (with_reducible refine Kd.C_drew ?_))); (case side2 => exact HC0.out); rintro e w22 ⟨rfl, hb⟩; refine ⟨_, rfl, ?_⟩; have n0_ := Aside0.mk (below_step (by repeat (first | (with_reducible first | exact HB.out | apply below_alloc | apply pw_below_drewN | apply below_drew1) | exact HB.out)) hb); clear HB; have HB := n0_; clear n0_; (try clear hb); (try clear hb2); (try clear hk); (try clear hi); have p170 : 0 ≤ (a1 : Int) := of_decide_eq_true (by first | (with_reducible assumption) | assumption); have q170 : a1 < (l0.length : Int) := of_decide_eq_true (by first | (with_reducible assumption) | assumption); obtain ⟨ad170, A170_3, c170_3, e170, hx170_0, hx170_1, hx170_2, hx170_3, hl170_3, hi170_3⟩ := at_T124 HR0.out a1 p170 q170; obtain rfl : ad166 = ad170 := (by injection e170); replace hx170_0 := (HB.out.cell (World.block_lt_of_cell? w _ hx170_0)).trans hx170_0; replace hx170_1 := (HB.out.cell (World.block_lt_of_cell? w _ hx170_1)).trans hx170_1; replace hx170_2 := (HB.out.cell (World.block_lt_of_cell? w _ hx170_2)).trans hx170_2; replace hx170_3 := (HB.out.cell (World.block_lt_of_cell? w _ hx170_3)).trans hx170_3; have HR170_3 := Aside0.mk hi170_3; have HC170_3 := Aside0.mk hl170_3; clear hi170_3 hl170_3; replace p170 := eq_true p170; replace q170 := eq_true q170; have p171 : 0 ≤ (x10_1 : Int) := of_decide_eq_true (by first | (with_reducible assumption) | assumption); have q171 : x10_1 < (((rd_T124 l0 a1).f3).length : Int) := of_decide_eq_true (by first | (with_reducible assumption) | assumption); obtain ⟨ad171, e171, hx171_0⟩ := Kd.at_int HR170_3.out x10_1 p171 q171; cases e171; replace hx171_0 := (HB.out.cell (World.block_lt_of_cell? w _ hx171_0)).trans hx171_0; replace p171 := eq_true p171; replace q171 := eq_true q171) | ((with_reducible refine gate_callee (f := 28) rfl ?_); refine goesL_ (some 50) rfl rfl Try.func28 (by kernel_rfl) rfl #[.slice (some ad166) l0.length c0, .int .i64 (rd ((rd_T124 l0 a1).f3) x10_1)] rfl (by (try simp only [List.map_toArray, List.map_cons, List.map_nil]); first | done | rfl | (simp only [List.length_drop, List.length_take]; rfl)) ?_; (with_reducible refine (types_Size.calls _ _ l0 (rd ((rd_T124 l0 a1).f3) x10_1) t172 t173 _ ?side1 ?side2 A13.out).mono ?_); (case side1 => repeat (first | exact (Kd.C_below HR0.out HB.out) | (with_reducible refine Kd.C_alloc ?_ _) | (with_reducible refine Kd.C_drewN ?_ _) | (with_reducible refine Kd.C_drew ?_))); (case side2 => exact HC0.out); rintro e w23 ⟨rfl, hb⟩; refine ⟨_, rfl, ?_⟩; have n0_ := Aside0.mk (below_step (by repeat (first | (with_reducible first | exact HB.out | apply below_alloc | apply pw_below_drewN | apply below_drew1) | exact HB.out)) hb); clear HB; have HB := n0_; clear n0_; (try clear hb); (try clear hb2); (try clear hk); (try clear hi); have p174 : 0 ≤ (a1 : Int) := of_decide_eq_true (by first | (with_reducible assumption) | assumption); have q174 : a1 < (l0.length : Int) := of_decide_eq_true (by first | (with_reducible assumption) | assumption); obtain ⟨ad174, A174_3, c174_3, e174, hx174_0, hx174_1, hx174_2, hx174_3, hl174_3, hi174_3⟩ := at_T124 HR0.out a1 p174 q174; obtain rfl : ad166 = ad174 := (by injection e174); replace hx174_0 := (HB.out.cell (World.block_lt_of_cell? w _ hx174_0)).trans hx174_0; replace hx174_1 := (HB.out.cell (World.block_lt_of_cell? w _ hx174_1)).trans hx174_1; replace hx174_2 := (HB.out.cell (World.block_lt_of_cell? w _ hx174_2)).trans hx174_2; replace hx174_3 := (HB.out.cell (World.block_lt_of_cell? w _ hx174_3)).trans hx174_3; have HR174_3 := Aside0.mk hi174_3; have HC174_3 := Aside0.mk hl174_3; clear hi174_3 hl174_3; replace p174 := eq_true p174; replace q174 := eq_true q174; have p175 : 0 ≤ (x10_1 : Int) := of_decide_eq_true (by first | (with_reducible assumption) | assumption); have q175 : x10_1 < (((rd_T124 l0 a1).f3).length : Int) := of_decide_eq_true (by first | (with_reducible assumption) | assumption); obtain ⟨ad175, e175, hx175_0⟩ := Kd.at_int HR174_3.out x10_1 p175 q175; cases e175; replace hx175_0 := (HB.out.cell (World.block_lt_of_cell? w _ hx175_0)).trans hx175_0; replace p175 := eq_true p175; replace q175 := eq_true q175) | ((with_reducible refine gate_callee (f := 29) rfl ?_); refine goesL_ (some 63) rfl rfl Try.func29 (by kernel_rfl) rfl #[.slice (some ad166) l0.length c0, .int .i64 (rd ((rd_T124 l0 a1).f3) x10_1)] rfl (by (try simp only [List.map_toArray, List.map_cons, List.map_nil]); first | done | rfl | (simp only [List.length_drop, List.length_take]; rfl)) ?_; (with_reducible refine (types_Align.calls _ _ l0 (rd ((rd_T124 l0 a1).f3) x10_1) t176 t177 _ ?side1 ?side2 A14.out).mono ?_); (case side1 => repeat (first | exact (Kd.C_below HR0.out HB.out) | (with_reducible refine Kd.C_alloc ?_ _) | (with_reducible refine Kd.C_drewN ?_ _) | (with_reducible refine Kd.C_drew ?_))); (case side2 => exact HC0.out); rintro e w24 ⟨rfl, hb⟩; refine ⟨_, rfl, ?_⟩; have n0_ := Aside0.mk (below_step (by repeat (first | (with_reducible first | exact HB.out | apply below_alloc | apply pw_below_drewN | apply below_drew1) | exact HB.out)) hb); clear HB; have HB := n0_; clear n0_; (try clear hb); (try clear hb2); (try clear hk); (try clear hi)) | ((with_reducible refine gate_callee (f := 25) rfl ?_); refine goesL_ (some 67) rfl rfl Try.func25 (by kernel_rfl) rfl #[.int .i64 t169] rfl (by (try simp only [List.map_toArray, List.map_cons, List.map_nil]); first | done | rfl | (simp only [List.length_drop, List.length_take]; rfl)) ?_; (with_reducible refine (gantrylaw7_num.calls t169 t178 _ A15.out).mono ?_); rintro e w' ⟨rfl, ⟨nd, rfl⟩⟩; refine ⟨_, rfl, ?_⟩))
                          go_ret
                          exact ⟨by first | rfl | (simp [errW_none, errW_some] <;> rfl) | (simp [*, errW_none, errW_some] <;> rfl), by repeat (first | (with_reducible first | exact HB.out | apply below_alloc | apply pw_below_drewN | apply below_drew1) | exact HB.out)⟩
                        · rw [if_neg c21] at H
                          have c21b0 : decide (t168 < x9_1) = false := decide_eq_false c21
                          clear c21
                          by_cases c25 : (wrap64 (t168 - x9_1)) ≥ t176
                          · rw [if_pos c25] at H
                            have c25b0 : decide (t176 ≤ (wrap64 (t168 - x9_1))) = true := decide_eq_true c25
                            clear c25
                            obtain rfl := Option.some.inj H
                            have p167 : 0 ≤ (a1 : Int) := of_decide_eq_true (by first | (with_reducible assumption) | assumption)
                            have q167 : a1 < (l0.length : Int) := of_decide_eq_true (by first | (with_reducible assumption) | assumption)
                            obtain ⟨ad167, A167_3, c167_3, e167, hx167_0, hx167_1, hx167_2, hx167_3, hl167_3, hi167_3⟩ := at_T124 HR0.out a1 p167 q167
                            obtain rfl : ad166 = ad167 := (by injection e167)
                            replace hx167_0 := (HB.out.cell (World.block_lt_of_cell? w _ hx167_0)).trans hx167_0
                            replace hx167_1 := (HB.out.cell (World.block_lt_of_cell? w _ hx167_1)).trans hx167_1
                            replace hx167_2 := (HB.out.cell (World.block_lt_of_cell? w _ hx167_2)).trans hx167_2
                            replace hx167_3 := (HB.out.cell (World.block_lt_of_cell? w _ hx167_3)).trans hx167_3
                            have HR167_3 := Aside0.mk hi167_3
                            have HC167_3 := Aside0.mk hl167_3
                            clear hi167_3 hl167_3
                            replace p167 := eq_true p167
                            replace q167 := eq_true q167
                            go_wp2_with (first | ((with_reducible refine gate_callee (f := 83) rfl ?_); refine goesL_ (some 37) rfl rfl Try.func83 (by kernel_rfl) rfl #[.slice (some ad166) l0.length c0, .int .i64 a1, .int .i64 x10_1] rfl (by (try simp only [List.map_toArray, List.map_cons, List.map_nil]); first | done | rfl | (simp only [List.length_drop, List.length_take]; rfl)) ?_; (with_reducible refine (types_Offset.calls _ _ l0 a1 x10_1 t168 t169 _ ?side1 ?side2 A11.out).mono ?_); (case side1 => repeat (first | exact (Kd.C_below HR0.out HB.out) | (with_reducible refine Kd.C_alloc ?_ _) | (with_reducible refine Kd.C_drewN ?_ _) | (with_reducible refine Kd.C_drew ?_))); (case side2 => exact HC0.out); rintro e w26 ⟨rfl, hb⟩; refine ⟨_, rfl, ?_⟩; have n0_ := Aside0.mk (below_step (by repeat (first | (with_reducible first | exact HB.out | apply below_alloc | apply pw_below_drewN | apply below_drew1) | exact HB.out)) hb); clear HB; have HB := n0_; clear n0_; (try clear hb); (try clear hb2); (try clear hk); (try clear hi); have p170 : 0 ≤ (a1 : Int) := of_decide_eq_true (by first | (with_reducible assumption) | assumption); have q170 : a1 < (l0.length : Int) := of_decide_eq_true (by first | (with_reducible assumption) | assumption); obtain ⟨ad170, A170_3, c170_3, e170, hx170_0, hx170_1, hx170_2, hx170_3, hl170_3, hi170_3⟩ := at_T124 HR0.out a1 p170 q170; obtain rfl : ad166 = ad170 := (by injection e170); replace hx170_0 := (HB.out.cell (World.block_lt_of_cell? w _ hx170_0)).trans hx170_0; replace hx170_1 := (HB.out.cell (World.block_lt_of_cell? w _ hx170_1)).trans hx170_1; replace hx170_2 := (HB.out.cell (World.block_lt_of_cell? w _ hx170_2)).trans hx170_2; replace hx170_3 := (HB.out.cell (World.block_lt_of_cell? w _ hx170_3)).trans hx170_3; have HR170_3 := Aside0.mk hi170_3; have HC170_3 := Aside0.mk hl170_3; clear hi170_3 hl170_3; replace p170 := eq_true p170; replace q170 := eq_true q170; have p171 : 0 ≤ (x10_1 : Int) := of_decide_eq_true (by first | (with_reducible assumption) | assumption); have q171 : x10_1 < (((rd_T124 l0 a1).f3).length : Int) := of_decide_eq_true (by first | (with_reducible assumption) | assumption); obtain ⟨ad171, e171, hx171_0⟩ := Kd.at_int HR170_3.out x10_1 p171 q171; cases e171; replace hx171_0 := (HB.out.cell (World.block_lt_of_cell? w _ hx171_0)).trans hx171_0; replace p171 := eq_true p171; replace q171 := eq_true q171) | ((with_reducible refine gate_callee (f := 28) rfl ?_); refine goesL_ (some 50) rfl rfl Try.func28 (by kernel_rfl) rfl #[.slice (some ad166) l0.length c0, .int .i64 (rd ((rd_T124 l0 a1).f3) x10_1)] rfl (by (try simp only [List.map_toArray, List.map_cons, List.map_nil]); first | done | rfl | (simp only [List.length_drop, List.length_take]; rfl)) ?_; (with_reducible refine (types_Size.calls _ _ l0 (rd ((rd_T124 l0 a1).f3) x10_1) t172 t173 _ ?side1 ?side2 A13.out).mono ?_); (case side1 => repeat (first | exact (Kd.C_below HR0.out HB.out) | (with_reducible refine Kd.C_alloc ?_ _) | (with_reducible refine Kd.C_drewN ?_ _) | (with_reducible refine Kd.C_drew ?_))); (case side2 => exact HC0.out); rintro e w27 ⟨rfl, hb⟩; refine ⟨_, rfl, ?_⟩; have n0_ := Aside0.mk (below_step (by repeat (first | (with_reducible first | exact HB.out | apply below_alloc | apply pw_below_drewN | apply below_drew1) | exact HB.out)) hb); clear HB; have HB := n0_; clear n0_; (try clear hb); (try clear hb2); (try clear hk); (try clear hi); have p174 : 0 ≤ (a1 : Int) := of_decide_eq_true (by first | (with_reducible assumption) | assumption); have q174 : a1 < (l0.length : Int) := of_decide_eq_true (by first | (with_reducible assumption) | assumption); obtain ⟨ad174, A174_3, c174_3, e174, hx174_0, hx174_1, hx174_2, hx174_3, hl174_3, hi174_3⟩ := at_T124 HR0.out a1 p174 q174; obtain rfl : ad166 = ad174 := (by injection e174); replace hx174_0 := (HB.out.cell (World.block_lt_of_cell? w _ hx174_0)).trans hx174_0; replace hx174_1 := (HB.out.cell (World.block_lt_of_cell? w _ hx174_1)).trans hx174_1; replace hx174_2 := (HB.out.cell (World.block_lt_of_cell? w _ hx174_2)).trans hx174_2; replace hx174_3 := (HB.out.cell (World.block_lt_of_cell? w _ hx174_3)).trans hx174_3; have HR174_3 := Aside0.mk hi174_3; have HC174_3 := Aside0.mk hl174_3; clear hi174_3 hl174_3; replace p174 := eq_true p174; replace q174 := eq_true q174; have p175 : 0 ≤ (x10_1 : Int) := of_decide_eq_true (by first | (with_reducible assumption) | assumption); have q175 : x10_1 < (((rd_T124 l0 a1).f3).length : Int) := of_decide_eq_true (by first | (with_reducible assumption) | assumption); obtain ⟨ad175, e175, hx175_0⟩ := Kd.at_int HR174_3.out x10_1 p175 q175; cases e175; replace hx175_0 := (HB.out.cell (World.block_lt_of_cell? w _ hx175_0)).trans hx175_0; replace p175 := eq_true p175; replace q175 := eq_true q175) | ((with_reducible refine gate_callee (f := 29) rfl ?_); refine goesL_ (some 63) rfl rfl Try.func29 (by kernel_rfl) rfl #[.slice (some ad166) l0.length c0, .int .i64 (rd ((rd_T124 l0 a1).f3) x10_1)] rfl (by (try simp only [List.map_toArray, List.map_cons, List.map_nil]); first | done | rfl | (simp only [List.length_drop, List.length_take]; rfl)) ?_; (with_reducible refine (types_Align.calls _ _ l0 (rd ((rd_T124 l0 a1).f3) x10_1) t176 t177 _ ?side1 ?side2 A14.out).mono ?_); (case side1 => repeat (first | exact (Kd.C_below HR0.out HB.out) | (with_reducible refine Kd.C_alloc ?_ _) | (with_reducible refine Kd.C_drewN ?_ _) | (with_reducible refine Kd.C_drew ?_))); (case side2 => exact HC0.out); rintro e w28 ⟨rfl, hb⟩; refine ⟨_, rfl, ?_⟩; have n0_ := Aside0.mk (below_step (by repeat (first | (with_reducible first | exact HB.out | apply below_alloc | apply pw_below_drewN | apply below_drew1) | exact HB.out)) hb); clear HB; have HB := n0_; clear n0_; (try clear hb); (try clear hb2); (try clear hk); (try clear hi)) | ((with_reducible refine gate_callee (f := 25) rfl ?_); refine goesL_ (some 67) rfl rfl Try.func25 (by kernel_rfl) rfl #[.int .i64 t169] rfl (by (try simp only [List.map_toArray, List.map_cons, List.map_nil]); first | done | rfl | (simp only [List.length_drop, List.length_take]; rfl)) ?_; (with_reducible refine (gantrylaw7_num.calls t169 t178 _ A15.out).mono ?_); rintro e w' ⟨rfl, ⟨nd, rfl⟩⟩; refine ⟨_, rfl, ?_⟩))
                            go_ret
                            exact ⟨by first | rfl | (simp [errW_none, errW_some] <;> rfl) | (simp [*, errW_none, errW_some] <;> rfl), by repeat (first | (with_reducible first | exact HB.out | apply below_alloc | apply pw_below_drewN | apply below_drew1) | exact HB.out)⟩
                          · rw [if_neg c25] at H
                            have c25b0 : decide (t176 ≤ (wrap64 (t168 - x9_1))) = false := decide_eq_false c25
                            clear c25
                            by_cases c29 : t176 = 0
                            · rw [if_pos c29] at H
                              exact absurd H (by simp)
                            · rw [if_neg c29] at H
                              have c29b0 : (t176 == 0) = false := beq_eq_false_iff_ne.mpr c29
                              have c29b1 : (t176 != 0) = true := bne_iff_ne.mpr c29
                              by_cases c30 : (Int.tmod t168 t176) = 0
                              · rw [if_pos c30] at H
                                have c30b0 : ((Int.tmod t168 t176) == 0) = true := beq_iff_eq.mpr c30
                                have c30b1 : ((Int.tmod t168 t176) != 0) = false := bne_eq_false_iff_eq.mpr c30
                                clear c30
                                by_cases c31 : (Int.tmod a3 t176) = 0
                                · rw [if_pos c31] at H
                                  have c31b0 : ((Int.tmod a3 t176) == 0) = true := beq_iff_eq.mpr c31
                                  have c31b1 : ((Int.tmod a3 t176) != 0) = false := bne_eq_false_iff_eq.mpr c31
                                  clear c31
                                  by_cases c32 : (wrap64 (t168 + t172)) > a2
                                  · rw [if_pos c32] at H
                                    have c32b0 : decide (a2 < (wrap64 (t168 + t172))) = true := decide_eq_true c32
                                    clear c32
                                    obtain rfl := Option.some.inj H
                                    have p167 : 0 ≤ (a1 : Int) := of_decide_eq_true (by first | (with_reducible assumption) | assumption)
                                    have q167 : a1 < (l0.length : Int) := of_decide_eq_true (by first | (with_reducible assumption) | assumption)
                                    obtain ⟨ad167, A167_3, c167_3, e167, hx167_0, hx167_1, hx167_2, hx167_3, hl167_3, hi167_3⟩ := at_T124 HR0.out a1 p167 q167
                                    obtain rfl : ad166 = ad167 := (by injection e167)
                                    replace hx167_0 := (HB.out.cell (World.block_lt_of_cell? w _ hx167_0)).trans hx167_0
                                    replace hx167_1 := (HB.out.cell (World.block_lt_of_cell? w _ hx167_1)).trans hx167_1
                                    replace hx167_2 := (HB.out.cell (World.block_lt_of_cell? w _ hx167_2)).trans hx167_2
                                    replace hx167_3 := (HB.out.cell (World.block_lt_of_cell? w _ hx167_3)).trans hx167_3
                                    have HR167_3 := Aside0.mk hi167_3
                                    have HC167_3 := Aside0.mk hl167_3
                                    clear hi167_3 hl167_3
                                    replace p167 := eq_true p167
                                    replace q167 := eq_true q167
                                    go_wp2_with (first | ((with_reducible refine gate_callee (f := 83) rfl ?_); refine goesL_ (some 37) rfl rfl Try.func83 (by kernel_rfl) rfl #[.slice (some ad166) l0.length c0, .int .i64 a1, .int .i64 x10_1] rfl (by (try simp only [List.map_toArray, List.map_cons, List.map_nil]); first | done | rfl | (simp only [List.length_drop, List.length_take]; rfl)) ?_; (with_reducible refine (types_Offset.calls _ _ l0 a1 x10_1 t168 t169 _ ?side1 ?side2 A11.out).mono ?_); (case side1 => repeat (first | exact (Kd.C_below HR0.out HB.out) | (with_reducible refine Kd.C_alloc ?_ _) | (with_reducible refine Kd.C_drewN ?_ _) | (with_reducible refine Kd.C_drew ?_))); (case side2 => exact HC0.out); rintro e w33 ⟨rfl, hb⟩; refine ⟨_, rfl, ?_⟩; have n0_ := Aside0.mk (below_step (by repeat (first | (with_reducible first | exact HB.out | apply below_alloc | apply pw_below_drewN | apply below_drew1) | exact HB.out)) hb); clear HB; have HB := n0_; clear n0_; (try clear hb); (try clear hb2); (try clear hk); (try clear hi); have p170 : 0 ≤ (a1 : Int) := of_decide_eq_true (by first | (with_reducible assumption) | assumption); have q170 : a1 < (l0.length : Int) := of_decide_eq_true (by first | (with_reducible assumption) | assumption); obtain ⟨ad170, A170_3, c170_3, e170, hx170_0, hx170_1, hx170_2, hx170_3, hl170_3, hi170_3⟩ := at_T124 HR0.out a1 p170 q170; obtain rfl : ad166 = ad170 := (by injection e170); replace hx170_0 := (HB.out.cell (World.block_lt_of_cell? w _ hx170_0)).trans hx170_0; replace hx170_1 := (HB.out.cell (World.block_lt_of_cell? w _ hx170_1)).trans hx170_1; replace hx170_2 := (HB.out.cell (World.block_lt_of_cell? w _ hx170_2)).trans hx170_2; replace hx170_3 := (HB.out.cell (World.block_lt_of_cell? w _ hx170_3)).trans hx170_3; have HR170_3 := Aside0.mk hi170_3; have HC170_3 := Aside0.mk hl170_3; clear hi170_3 hl170_3; replace p170 := eq_true p170; replace q170 := eq_true q170; have p171 : 0 ≤ (x10_1 : Int) := of_decide_eq_true (by first | (with_reducible assumption) | assumption); have q171 : x10_1 < (((rd_T124 l0 a1).f3).length : Int) := of_decide_eq_true (by first | (with_reducible assumption) | assumption); obtain ⟨ad171, e171, hx171_0⟩ := Kd.at_int HR170_3.out x10_1 p171 q171; cases e171; replace hx171_0 := (HB.out.cell (World.block_lt_of_cell? w _ hx171_0)).trans hx171_0; replace p171 := eq_true p171; replace q171 := eq_true q171) | ((with_reducible refine gate_callee (f := 28) rfl ?_); refine goesL_ (some 50) rfl rfl Try.func28 (by kernel_rfl) rfl #[.slice (some ad166) l0.length c0, .int .i64 (rd ((rd_T124 l0 a1).f3) x10_1)] rfl (by (try simp only [List.map_toArray, List.map_cons, List.map_nil]); first | done | rfl | (simp only [List.length_drop, List.length_take]; rfl)) ?_; (with_reducible refine (types_Size.calls _ _ l0 (rd ((rd_T124 l0 a1).f3) x10_1) t172 t173 _ ?side1 ?side2 A13.out).mono ?_); (case side1 => repeat (first | exact (Kd.C_below HR0.out HB.out) | (with_reducible refine Kd.C_alloc ?_ _) | (with_reducible refine Kd.C_drewN ?_ _) | (with_reducible refine Kd.C_drew ?_))); (case side2 => exact HC0.out); rintro e w34 ⟨rfl, hb⟩; refine ⟨_, rfl, ?_⟩; have n0_ := Aside0.mk (below_step (by repeat (first | (with_reducible first | exact HB.out | apply below_alloc | apply pw_below_drewN | apply below_drew1) | exact HB.out)) hb); clear HB; have HB := n0_; clear n0_; (try clear hb); (try clear hb2); (try clear hk); (try clear hi); have p174 : 0 ≤ (a1 : Int) := of_decide_eq_true (by first | (with_reducible assumption) | assumption); have q174 : a1 < (l0.length : Int) := of_decide_eq_true (by first | (with_reducible assumption) | assumption); obtain ⟨ad174, A174_3, c174_3, e174, hx174_0, hx174_1, hx174_2, hx174_3, hl174_3, hi174_3⟩ := at_T124 HR0.out a1 p174 q174; obtain rfl : ad166 = ad174 := (by injection e174); replace hx174_0 := (HB.out.cell (World.block_lt_of_cell? w _ hx174_0)).trans hx174_0; replace hx174_1 := (HB.out.cell (World.block_lt_of_cell? w _ hx174_1)).trans hx174_1; replace hx174_2 := (HB.out.cell (World.block_lt_of_cell? w _ hx174_2)).trans hx174_2; replace hx174_3 := (HB.out.cell (World.block_lt_of_cell? w _ hx174_3)).trans hx174_3; have HR174_3 := Aside0.mk hi174_3; have HC174_3 := Aside0.mk hl174_3; clear hi174_3 hl174_3; replace p174 := eq_true p174; replace q174 := eq_true q174; have p175 : 0 ≤ (x10_1 : Int) := of_decide_eq_true (by first | (with_reducible assumption) | assumption); have q175 : x10_1 < (((rd_T124 l0 a1).f3).length : Int) := of_decide_eq_true (by first | (with_reducible assumption) | assumption); obtain ⟨ad175, e175, hx175_0⟩ := Kd.at_int HR174_3.out x10_1 p175 q175; cases e175; replace hx175_0 := (HB.out.cell (World.block_lt_of_cell? w _ hx175_0)).trans hx175_0; replace p175 := eq_true p175; replace q175 := eq_true q175) | ((with_reducible refine gate_callee (f := 29) rfl ?_); refine goesL_ (some 63) rfl rfl Try.func29 (by kernel_rfl) rfl #[.slice (some ad166) l0.length c0, .int .i64 (rd ((rd_T124 l0 a1).f3) x10_1)] rfl (by (try simp only [List.map_toArray, List.map_cons, List.map_nil]); first | done | rfl | (simp only [List.length_drop, List.length_take]; rfl)) ?_; (with_reducible refine (types_Align.calls _ _ l0 (rd ((rd_T124 l0 a1).f3) x10_1) t176 t177 _ ?side1 ?side2 A14.out).mono ?_); (case side1 => repeat (first | exact (Kd.C_below HR0.out HB.out) | (with_reducible refine Kd.C_alloc ?_ _) | (with_reducible refine Kd.C_drewN ?_ _) | (with_reducible refine Kd.C_drew ?_))); (case side2 => exact HC0.out); rintro e w35 ⟨rfl, hb⟩; refine ⟨_, rfl, ?_⟩; have n0_ := Aside0.mk (below_step (by repeat (first | (with_reducible first | exact HB.out | apply below_alloc | apply pw_below_drewN | apply below_drew1) | exact HB.out)) hb); clear HB; have HB := n0_; clear n0_; (try clear hb); (try clear hb2); (try clear hk); (try clear hi)) | ((with_reducible refine gate_callee (f := 25) rfl ?_); refine goesL_ (some 67) rfl rfl Try.func25 (by kernel_rfl) rfl #[.int .i64 t169] rfl (by (try simp only [List.map_toArray, List.map_cons, List.map_nil]); first | done | rfl | (simp only [List.length_drop, List.length_take]; rfl)) ?_; (with_reducible refine (gantrylaw7_num.calls t169 t178 _ A15.out).mono ?_); rintro e w' ⟨rfl, ⟨nd, rfl⟩⟩; refine ⟨_, rfl, ?_⟩))
                                    go_ret
                                    exact ⟨by first | rfl | (simp [errW_none, errW_some] <;> rfl) | (simp [*, errW_none, errW_some] <;> rfl), by repeat (first | (with_reducible first | exact HB.out | apply below_alloc | apply pw_below_drewN | apply below_drew1) | exact HB.out)⟩
                                  · rw [if_neg c32] at H
                                    have c32b0 : decide (a2 < (wrap64 (t168 + t172))) = false := decide_eq_false c32
                                    clear c32
                                    have H' := Aside0.mk H
                                    clear H
                                    have p167 : 0 ≤ (a1 : Int) := of_decide_eq_true (by first | (with_reducible assumption) | assumption)
                                    have q167 : a1 < (l0.length : Int) := of_decide_eq_true (by first | (with_reducible assumption) | assumption)
                                    obtain ⟨ad167, A167_3, c167_3, e167, hx167_0, hx167_1, hx167_2, hx167_3, hl167_3, hi167_3⟩ := at_T124 HR0.out a1 p167 q167
                                    obtain rfl : ad166 = ad167 := (by injection e167)
                                    replace hx167_0 := (HB.out.cell (World.block_lt_of_cell? w _ hx167_0)).trans hx167_0
                                    replace hx167_1 := (HB.out.cell (World.block_lt_of_cell? w _ hx167_1)).trans hx167_1
                                    replace hx167_2 := (HB.out.cell (World.block_lt_of_cell? w _ hx167_2)).trans hx167_2
                                    replace hx167_3 := (HB.out.cell (World.block_lt_of_cell? w _ hx167_3)).trans hx167_3
                                    have HR167_3 := Aside0.mk hi167_3
                                    have HC167_3 := Aside0.mk hl167_3
                                    clear hi167_3 hl167_3
                                    replace p167 := eq_true p167
                                    replace q167 := eq_true q167
                                    go_wp2_with (first | ((with_reducible refine gate_callee (f := 83) rfl ?_); refine goesL_ (some 37) rfl rfl Try.func83 (by kernel_rfl) rfl #[.slice (some ad166) l0.length c0, .int .i64 a1, .int .i64 x10_1] rfl (by (try simp only [List.map_toArray, List.map_cons, List.map_nil]); first | done | rfl | (simp only [List.length_drop, List.length_take]; rfl)) ?_; (with_reducible refine (types_Offset.calls _ _ l0 a1 x10_1 t168 t169 _ ?side1 ?side2 A11.out).mono ?_); (case side1 => repeat (first | exact (Kd.C_below HR0.out HB.out) | (with_reducible refine Kd.C_alloc ?_ _) | (with_reducible refine Kd.C_drewN ?_ _) | (with_reducible refine Kd.C_drew ?_))); (case side2 => exact HC0.out); rintro e w36 ⟨rfl, hb⟩; refine ⟨_, rfl, ?_⟩; have n0_ := Aside0.mk (below_step (by repeat (first | (with_reducible first | exact HB.out | apply below_alloc | apply pw_below_drewN | apply below_drew1) | exact HB.out)) hb); clear HB; have HB := n0_; clear n0_; (try clear hb); (try clear hb2); (try clear hk); (try clear hi); have p170 : 0 ≤ (a1 : Int) := of_decide_eq_true (by first | (with_reducible assumption) | assumption); have q170 : a1 < (l0.length : Int) := of_decide_eq_true (by first | (with_reducible assumption) | assumption); obtain ⟨ad170, A170_3, c170_3, e170, hx170_0, hx170_1, hx170_2, hx170_3, hl170_3, hi170_3⟩ := at_T124 HR0.out a1 p170 q170; obtain rfl : ad166 = ad170 := (by injection e170); replace hx170_0 := (HB.out.cell (World.block_lt_of_cell? w _ hx170_0)).trans hx170_0; replace hx170_1 := (HB.out.cell (World.block_lt_of_cell? w _ hx170_1)).trans hx170_1; replace hx170_2 := (HB.out.cell (World.block_lt_of_cell? w _ hx170_2)).trans hx170_2; replace hx170_3 := (HB.out.cell (World.block_lt_of_cell? w _ hx170_3)).trans hx170_3; have HR170_3 := Aside0.mk hi170_3; have HC170_3 := Aside0.mk hl170_3; clear hi170_3 hl170_3; replace p170 := eq_true p170; replace q170 := eq_true q170; have p171 : 0 ≤ (x10_1 : Int) := of_decide_eq_true (by first | (with_reducible assumption) | assumption); have q171 : x10_1 < (((rd_T124 l0 a1).f3).length : Int) := of_decide_eq_true (by first | (with_reducible assumption) | assumption); obtain ⟨ad171, e171, hx171_0⟩ := Kd.at_int HR170_3.out x10_1 p171 q171; cases e171; replace hx171_0 := (HB.out.cell (World.block_lt_of_cell? w _ hx171_0)).trans hx171_0; replace p171 := eq_true p171; replace q171 := eq_true q171) | ((with_reducible refine gate_callee (f := 28) rfl ?_); refine goesL_ (some 50) rfl rfl Try.func28 (by kernel_rfl) rfl #[.slice (some ad166) l0.length c0, .int .i64 (rd ((rd_T124 l0 a1).f3) x10_1)] rfl (by (try simp only [List.map_toArray, List.map_cons, List.map_nil]); first | done | rfl | (simp only [List.length_drop, List.length_take]; rfl)) ?_; (with_reducible refine (types_Size.calls _ _ l0 (rd ((rd_T124 l0 a1).f3) x10_1) t172 t173 _ ?side1 ?side2 A13.out).mono ?_); (case side1 => repeat (first | exact (Kd.C_below HR0.out HB.out) | (with_reducible refine Kd.C_alloc ?_ _) | (with_reducible refine Kd.C_drewN ?_ _) | (with_reducible refine Kd.C_drew ?_))); (case side2 => exact HC0.out); rintro e w37 ⟨rfl, hb⟩; refine ⟨_, rfl, ?_⟩; have n0_ := Aside0.mk (below_step (by repeat (first | (with_reducible first | exact HB.out | apply below_alloc | apply pw_below_drewN | apply below_drew1) | exact HB.out)) hb); clear HB; have HB := n0_; clear n0_; (try clear hb); (try clear hb2); (try clear hk); (try clear hi); have p174 : 0 ≤ (a1 : Int) := of_decide_eq_true (by first | (with_reducible assumption) | assumption); have q174 : a1 < (l0.length : Int) := of_decide_eq_true (by first | (with_reducible assumption) | assumption); obtain ⟨ad174, A174_3, c174_3, e174, hx174_0, hx174_1, hx174_2, hx174_3, hl174_3, hi174_3⟩ := at_T124 HR0.out a1 p174 q174; obtain rfl : ad166 = ad174 := (by injection e174); replace hx174_0 := (HB.out.cell (World.block_lt_of_cell? w _ hx174_0)).trans hx174_0; replace hx174_1 := (HB.out.cell (World.block_lt_of_cell? w _ hx174_1)).trans hx174_1; replace hx174_2 := (HB.out.cell (World.block_lt_of_cell? w _ hx174_2)).trans hx174_2; replace hx174_3 := (HB.out.cell (World.block_lt_of_cell? w _ hx174_3)).trans hx174_3; have HR174_3 := Aside0.mk hi174_3; have HC174_3 := Aside0.mk hl174_3; clear hi174_3 hl174_3; replace p174 := eq_true p174; replace q174 := eq_true q174; have p175 : 0 ≤ (x10_1 : Int) := of_decide_eq_true (by first | (with_reducible assumption) | assumption); have q175 : x10_1 < (((rd_T124 l0 a1).f3).length : Int) := of_decide_eq_true (by first | (with_reducible assumption) | assumption); obtain ⟨ad175, e175, hx175_0⟩ := Kd.at_int HR174_3.out x10_1 p175 q175; cases e175; replace hx175_0 := (HB.out.cell (World.block_lt_of_cell? w _ hx175_0)).trans hx175_0; replace p175 := eq_true p175; replace q175 := eq_true q175) | ((with_reducible refine gate_callee (f := 29) rfl ?_); refine goesL_ (some 63) rfl rfl Try.func29 (by kernel_rfl) rfl #[.slice (some ad166) l0.length c0, .int .i64 (rd ((rd_T124 l0 a1).f3) x10_1)] rfl (by (try simp only [List.map_toArray, List.map_cons, List.map_nil]); first | done | rfl | (simp only [List.length_drop, List.length_take]; rfl)) ?_; (with_reducible refine (types_Align.calls _ _ l0 (rd ((rd_T124 l0 a1).f3) x10_1) t176 t177 _ ?side1 ?side2 A14.out).mono ?_); (case side1 => repeat (first | exact (Kd.C_below HR0.out HB.out) | (with_reducible refine Kd.C_alloc ?_ _) | (with_reducible refine Kd.C_drewN ?_ _) | (with_reducible refine Kd.C_drew ?_))); (case side2 => exact HC0.out); rintro e w38 ⟨rfl, hb⟩; refine ⟨_, rfl, ?_⟩; have n0_ := Aside0.mk (below_step (by repeat (first | (with_reducible first | exact HB.out | apply below_alloc | apply pw_below_drewN | apply below_drew1) | exact HB.out)) hb); clear HB; have HB := n0_; clear n0_; (try clear hb); (try clear hb2); (try clear hk); (try clear hi)) | ((with_reducible refine gate_callee (f := 25) rfl ?_); refine goesL_ (some 67) rfl rfl Try.func25 (by kernel_rfl) rfl #[.int .i64 t169] rfl (by (try simp only [List.map_toArray, List.map_cons, List.map_nil]); first | done | rfl | (simp only [List.length_drop, List.length_take]; rfl)) ?_; (with_reducible refine (gantrylaw7_num.calls t169 t178 _ A15.out).mono ?_); rintro e w' ⟨rfl, ⟨nd, rfl⟩⟩; refine ⟨_, rfl, ?_⟩))
                                    go_roundg k1
                                    case measure => have := HK1.out; omega
                                    case rel => exact ⟨(wrap64 (t168 + t172)), (wrap64 (x10_1 + 1)), (by first | rfl | (simp; done) | (simp [*]; done)), (by first | rfl | (simp; done) | (simp [*]; done)), H', ⟨by have := HK1.out; omega⟩, ⟨by repeat (first | (with_reducible first | exact HB.out | apply below_alloc | apply pw_below_drewN | apply below_drew1) | exact HB.out)⟩⟩
                                · rw [if_neg c31] at H
                                  have c31b0 : ((Int.tmod a3 t176) == 0) = false := beq_eq_false_iff_ne.mpr c31
                                  have c31b1 : ((Int.tmod a3 t176) != 0) = true := bne_iff_ne.mpr c31
                                  obtain rfl := Option.some.inj H
                                  have p167 : 0 ≤ (a1 : Int) := of_decide_eq_true (by first | (with_reducible assumption) | assumption)
                                  have q167 : a1 < (l0.length : Int) := of_decide_eq_true (by first | (with_reducible assumption) | assumption)
                                  obtain ⟨ad167, A167_3, c167_3, e167, hx167_0, hx167_1, hx167_2, hx167_3, hl167_3, hi167_3⟩ := at_T124 HR0.out a1 p167 q167
                                  obtain rfl : ad166 = ad167 := (by injection e167)
                                  replace hx167_0 := (HB.out.cell (World.block_lt_of_cell? w _ hx167_0)).trans hx167_0
                                  replace hx167_1 := (HB.out.cell (World.block_lt_of_cell? w _ hx167_1)).trans hx167_1
                                  replace hx167_2 := (HB.out.cell (World.block_lt_of_cell? w _ hx167_2)).trans hx167_2
                                  replace hx167_3 := (HB.out.cell (World.block_lt_of_cell? w _ hx167_3)).trans hx167_3
                                  have HR167_3 := Aside0.mk hi167_3
                                  have HC167_3 := Aside0.mk hl167_3
                                  clear hi167_3 hl167_3
                                  replace p167 := eq_true p167
                                  replace q167 := eq_true q167
                                  go_wp2_with (first | ((with_reducible refine gate_callee (f := 83) rfl ?_); refine goesL_ (some 37) rfl rfl Try.func83 (by kernel_rfl) rfl #[.slice (some ad166) l0.length c0, .int .i64 a1, .int .i64 x10_1] rfl (by (try simp only [List.map_toArray, List.map_cons, List.map_nil]); first | done | rfl | (simp only [List.length_drop, List.length_take]; rfl)) ?_; (with_reducible refine (types_Offset.calls _ _ l0 a1 x10_1 t168 t169 _ ?side1 ?side2 A11.out).mono ?_); (case side1 => repeat (first | exact (Kd.C_below HR0.out HB.out) | (with_reducible refine Kd.C_alloc ?_ _) | (with_reducible refine Kd.C_drewN ?_ _) | (with_reducible refine Kd.C_drew ?_))); (case side2 => exact HC0.out); rintro e w39 ⟨rfl, hb⟩; refine ⟨_, rfl, ?_⟩; have n0_ := Aside0.mk (below_step (by repeat (first | (with_reducible first | exact HB.out | apply below_alloc | apply pw_below_drewN | apply below_drew1) | exact HB.out)) hb); clear HB; have HB := n0_; clear n0_; (try clear hb); (try clear hb2); (try clear hk); (try clear hi); have p170 : 0 ≤ (a1 : Int) := of_decide_eq_true (by first | (with_reducible assumption) | assumption); have q170 : a1 < (l0.length : Int) := of_decide_eq_true (by first | (with_reducible assumption) | assumption); obtain ⟨ad170, A170_3, c170_3, e170, hx170_0, hx170_1, hx170_2, hx170_3, hl170_3, hi170_3⟩ := at_T124 HR0.out a1 p170 q170; obtain rfl : ad166 = ad170 := (by injection e170); replace hx170_0 := (HB.out.cell (World.block_lt_of_cell? w _ hx170_0)).trans hx170_0; replace hx170_1 := (HB.out.cell (World.block_lt_of_cell? w _ hx170_1)).trans hx170_1; replace hx170_2 := (HB.out.cell (World.block_lt_of_cell? w _ hx170_2)).trans hx170_2; replace hx170_3 := (HB.out.cell (World.block_lt_of_cell? w _ hx170_3)).trans hx170_3; have HR170_3 := Aside0.mk hi170_3; have HC170_3 := Aside0.mk hl170_3; clear hi170_3 hl170_3; replace p170 := eq_true p170; replace q170 := eq_true q170; have p171 : 0 ≤ (x10_1 : Int) := of_decide_eq_true (by first | (with_reducible assumption) | assumption); have q171 : x10_1 < (((rd_T124 l0 a1).f3).length : Int) := of_decide_eq_true (by first | (with_reducible assumption) | assumption); obtain ⟨ad171, e171, hx171_0⟩ := Kd.at_int HR170_3.out x10_1 p171 q171; cases e171; replace hx171_0 := (HB.out.cell (World.block_lt_of_cell? w _ hx171_0)).trans hx171_0; replace p171 := eq_true p171; replace q171 := eq_true q171) | ((with_reducible refine gate_callee (f := 28) rfl ?_); refine goesL_ (some 50) rfl rfl Try.func28 (by kernel_rfl) rfl #[.slice (some ad166) l0.length c0, .int .i64 (rd ((rd_T124 l0 a1).f3) x10_1)] rfl (by (try simp only [List.map_toArray, List.map_cons, List.map_nil]); first | done | rfl | (simp only [List.length_drop, List.length_take]; rfl)) ?_; (with_reducible refine (types_Size.calls _ _ l0 (rd ((rd_T124 l0 a1).f3) x10_1) t172 t173 _ ?side1 ?side2 A13.out).mono ?_); (case side1 => repeat (first | exact (Kd.C_below HR0.out HB.out) | (with_reducible refine Kd.C_alloc ?_ _) | (with_reducible refine Kd.C_drewN ?_ _) | (with_reducible refine Kd.C_drew ?_))); (case side2 => exact HC0.out); rintro e w40 ⟨rfl, hb⟩; refine ⟨_, rfl, ?_⟩; have n0_ := Aside0.mk (below_step (by repeat (first | (with_reducible first | exact HB.out | apply below_alloc | apply pw_below_drewN | apply below_drew1) | exact HB.out)) hb); clear HB; have HB := n0_; clear n0_; (try clear hb); (try clear hb2); (try clear hk); (try clear hi); have p174 : 0 ≤ (a1 : Int) := of_decide_eq_true (by first | (with_reducible assumption) | assumption); have q174 : a1 < (l0.length : Int) := of_decide_eq_true (by first | (with_reducible assumption) | assumption); obtain ⟨ad174, A174_3, c174_3, e174, hx174_0, hx174_1, hx174_2, hx174_3, hl174_3, hi174_3⟩ := at_T124 HR0.out a1 p174 q174; obtain rfl : ad166 = ad174 := (by injection e174); replace hx174_0 := (HB.out.cell (World.block_lt_of_cell? w _ hx174_0)).trans hx174_0; replace hx174_1 := (HB.out.cell (World.block_lt_of_cell? w _ hx174_1)).trans hx174_1; replace hx174_2 := (HB.out.cell (World.block_lt_of_cell? w _ hx174_2)).trans hx174_2; replace hx174_3 := (HB.out.cell (World.block_lt_of_cell? w _ hx174_3)).trans hx174_3; have HR174_3 := Aside0.mk hi174_3; have HC174_3 := Aside0.mk hl174_3; clear hi174_3 hl174_3; replace p174 := eq_true p174; replace q174 := eq_true q174; have p175 : 0 ≤ (x10_1 : Int) := of_decide_eq_true (by first | (with_reducible assumption) | assumption); have q175 : x10_1 < (((rd_T124 l0 a1).f3).length : Int) := of_decide_eq_true (by first | (with_reducible assumption) | assumption); obtain ⟨ad175, e175, hx175_0⟩ := Kd.at_int HR174_3.out x10_1 p175 q175; cases e175; replace hx175_0 := (HB.out.cell (World.block_lt_of_cell? w _ hx175_0)).trans hx175_0; replace p175 := eq_true p175; replace q175 := eq_true q175) | ((with_reducible refine gate_callee (f := 29) rfl ?_); refine goesL_ (some 63) rfl rfl Try.func29 (by kernel_rfl) rfl #[.slice (some ad166) l0.length c0, .int .i64 (rd ((rd_T124 l0 a1).f3) x10_1)] rfl (by (try simp only [List.map_toArray, List.map_cons, List.map_nil]); first | done | rfl | (simp only [List.length_drop, List.length_take]; rfl)) ?_; (with_reducible refine (types_Align.calls _ _ l0 (rd ((rd_T124 l0 a1).f3) x10_1) t176 t177 _ ?side1 ?side2 A14.out).mono ?_); (case side1 => repeat (first | exact (Kd.C_below HR0.out HB.out) | (with_reducible refine Kd.C_alloc ?_ _) | (with_reducible refine Kd.C_drewN ?_ _) | (with_reducible refine Kd.C_drew ?_))); (case side2 => exact HC0.out); rintro e w41 ⟨rfl, hb⟩; refine ⟨_, rfl, ?_⟩; have n0_ := Aside0.mk (below_step (by repeat (first | (with_reducible first | exact HB.out | apply below_alloc | apply pw_below_drewN | apply below_drew1) | exact HB.out)) hb); clear HB; have HB := n0_; clear n0_; (try clear hb); (try clear hb2); (try clear hk); (try clear hi)) | ((with_reducible refine gate_callee (f := 25) rfl ?_); refine goesL_ (some 67) rfl rfl Try.func25 (by kernel_rfl) rfl #[.int .i64 t169] rfl (by (try simp only [List.map_toArray, List.map_cons, List.map_nil]); first | done | rfl | (simp only [List.length_drop, List.length_take]; rfl)) ?_; (with_reducible refine (gantrylaw7_num.calls t169 t178 _ A15.out).mono ?_); rintro e w' ⟨rfl, ⟨nd, rfl⟩⟩; refine ⟨_, rfl, ?_⟩))
                                  go_ret
                                  exact ⟨by first | rfl | (simp [errW_none, errW_some] <;> rfl) | (simp [*, errW_none, errW_some] <;> rfl), by repeat (first | (with_reducible first | exact HB.out | apply below_alloc | apply pw_below_drewN | apply below_drew1) | exact HB.out)⟩
                              · rw [if_neg c30] at H
                                have c30b0 : ((Int.tmod t168 t176) == 0) = false := beq_eq_false_iff_ne.mpr c30
                                have c30b1 : ((Int.tmod t168 t176) != 0) = true := bne_iff_ne.mpr c30
                                obtain rfl := Option.some.inj H
                                have p167 : 0 ≤ (a1 : Int) := of_decide_eq_true (by first | (with_reducible assumption) | assumption)
                                have q167 : a1 < (l0.length : Int) := of_decide_eq_true (by first | (with_reducible assumption) | assumption)
                                obtain ⟨ad167, A167_3, c167_3, e167, hx167_0, hx167_1, hx167_2, hx167_3, hl167_3, hi167_3⟩ := at_T124 HR0.out a1 p167 q167
                                obtain rfl : ad166 = ad167 := (by injection e167)
                                replace hx167_0 := (HB.out.cell (World.block_lt_of_cell? w _ hx167_0)).trans hx167_0
                                replace hx167_1 := (HB.out.cell (World.block_lt_of_cell? w _ hx167_1)).trans hx167_1
                                replace hx167_2 := (HB.out.cell (World.block_lt_of_cell? w _ hx167_2)).trans hx167_2
                                replace hx167_3 := (HB.out.cell (World.block_lt_of_cell? w _ hx167_3)).trans hx167_3
                                have HR167_3 := Aside0.mk hi167_3
                                have HC167_3 := Aside0.mk hl167_3
                                clear hi167_3 hl167_3
                                replace p167 := eq_true p167
                                replace q167 := eq_true q167
                                go_wp2_with (first | ((with_reducible refine gate_callee (f := 83) rfl ?_); refine goesL_ (some 37) rfl rfl Try.func83 (by kernel_rfl) rfl #[.slice (some ad166) l0.length c0, .int .i64 a1, .int .i64 x10_1] rfl (by (try simp only [List.map_toArray, List.map_cons, List.map_nil]); first | done | rfl | (simp only [List.length_drop, List.length_take]; rfl)) ?_; (with_reducible refine (types_Offset.calls _ _ l0 a1 x10_1 t168 t169 _ ?side1 ?side2 A11.out).mono ?_); (case side1 => repeat (first | exact (Kd.C_below HR0.out HB.out) | (with_reducible refine Kd.C_alloc ?_ _) | (with_reducible refine Kd.C_drewN ?_ _) | (with_reducible refine Kd.C_drew ?_))); (case side2 => exact HC0.out); rintro e w42 ⟨rfl, hb⟩; refine ⟨_, rfl, ?_⟩; have n0_ := Aside0.mk (below_step (by repeat (first | (with_reducible first | exact HB.out | apply below_alloc | apply pw_below_drewN | apply below_drew1) | exact HB.out)) hb); clear HB; have HB := n0_; clear n0_; (try clear hb); (try clear hb2); (try clear hk); (try clear hi); have p170 : 0 ≤ (a1 : Int) := of_decide_eq_true (by first | (with_reducible assumption) | assumption); have q170 : a1 < (l0.length : Int) := of_decide_eq_true (by first | (with_reducible assumption) | assumption); obtain ⟨ad170, A170_3, c170_3, e170, hx170_0, hx170_1, hx170_2, hx170_3, hl170_3, hi170_3⟩ := at_T124 HR0.out a1 p170 q170; obtain rfl : ad166 = ad170 := (by injection e170); replace hx170_0 := (HB.out.cell (World.block_lt_of_cell? w _ hx170_0)).trans hx170_0; replace hx170_1 := (HB.out.cell (World.block_lt_of_cell? w _ hx170_1)).trans hx170_1; replace hx170_2 := (HB.out.cell (World.block_lt_of_cell? w _ hx170_2)).trans hx170_2; replace hx170_3 := (HB.out.cell (World.block_lt_of_cell? w _ hx170_3)).trans hx170_3; have HR170_3 := Aside0.mk hi170_3; have HC170_3 := Aside0.mk hl170_3; clear hi170_3 hl170_3; replace p170 := eq_true p170; replace q170 := eq_true q170; have p171 : 0 ≤ (x10_1 : Int) := of_decide_eq_true (by first | (with_reducible assumption) | assumption); have q171 : x10_1 < (((rd_T124 l0 a1).f3).length : Int) := of_decide_eq_true (by first | (with_reducible assumption) | assumption); obtain ⟨ad171, e171, hx171_0⟩ := Kd.at_int HR170_3.out x10_1 p171 q171; cases e171; replace hx171_0 := (HB.out.cell (World.block_lt_of_cell? w _ hx171_0)).trans hx171_0; replace p171 := eq_true p171; replace q171 := eq_true q171) | ((with_reducible refine gate_callee (f := 28) rfl ?_); refine goesL_ (some 50) rfl rfl Try.func28 (by kernel_rfl) rfl #[.slice (some ad166) l0.length c0, .int .i64 (rd ((rd_T124 l0 a1).f3) x10_1)] rfl (by (try simp only [List.map_toArray, List.map_cons, List.map_nil]); first | done | rfl | (simp only [List.length_drop, List.length_take]; rfl)) ?_; (with_reducible refine (types_Size.calls _ _ l0 (rd ((rd_T124 l0 a1).f3) x10_1) t172 t173 _ ?side1 ?side2 A13.out).mono ?_); (case side1 => repeat (first | exact (Kd.C_below HR0.out HB.out) | (with_reducible refine Kd.C_alloc ?_ _) | (with_reducible refine Kd.C_drewN ?_ _) | (with_reducible refine Kd.C_drew ?_))); (case side2 => exact HC0.out); rintro e w43 ⟨rfl, hb⟩; refine ⟨_, rfl, ?_⟩; have n0_ := Aside0.mk (below_step (by repeat (first | (with_reducible first | exact HB.out | apply below_alloc | apply pw_below_drewN | apply below_drew1) | exact HB.out)) hb); clear HB; have HB := n0_; clear n0_; (try clear hb); (try clear hb2); (try clear hk); (try clear hi); have p174 : 0 ≤ (a1 : Int) := of_decide_eq_true (by first | (with_reducible assumption) | assumption); have q174 : a1 < (l0.length : Int) := of_decide_eq_true (by first | (with_reducible assumption) | assumption); obtain ⟨ad174, A174_3, c174_3, e174, hx174_0, hx174_1, hx174_2, hx174_3, hl174_3, hi174_3⟩ := at_T124 HR0.out a1 p174 q174; obtain rfl : ad166 = ad174 := (by injection e174); replace hx174_0 := (HB.out.cell (World.block_lt_of_cell? w _ hx174_0)).trans hx174_0; replace hx174_1 := (HB.out.cell (World.block_lt_of_cell? w _ hx174_1)).trans hx174_1; replace hx174_2 := (HB.out.cell (World.block_lt_of_cell? w _ hx174_2)).trans hx174_2; replace hx174_3 := (HB.out.cell (World.block_lt_of_cell? w _ hx174_3)).trans hx174_3; have HR174_3 := Aside0.mk hi174_3; have HC174_3 := Aside0.mk hl174_3; clear hi174_3 hl174_3; replace p174 := eq_true p174; replace q174 := eq_true q174; have p175 : 0 ≤ (x10_1 : Int) := of_decide_eq_true (by first | (with_reducible assumption) | assumption); have q175 : x10_1 < (((rd_T124 l0 a1).f3).length : Int) := of_decide_eq_true (by first | (with_reducible assumption) | assumption); obtain ⟨ad175, e175, hx175_0⟩ := Kd.at_int HR174_3.out x10_1 p175 q175; cases e175; replace hx175_0 := (HB.out.cell (World.block_lt_of_cell? w _ hx175_0)).trans hx175_0; replace p175 := eq_true p175; replace q175 := eq_true q175) | ((with_reducible refine gate_callee (f := 29) rfl ?_); refine goesL_ (some 63) rfl rfl Try.func29 (by kernel_rfl) rfl #[.slice (some ad166) l0.length c0, .int .i64 (rd ((rd_T124 l0 a1).f3) x10_1)] rfl (by (try simp only [List.map_toArray, List.map_cons, List.map_nil]); first | done | rfl | (simp only [List.length_drop, List.length_take]; rfl)) ?_; (with_reducible refine (types_Align.calls _ _ l0 (rd ((rd_T124 l0 a1).f3) x10_1) t176 t177 _ ?side1 ?side2 A14.out).mono ?_); (case side1 => repeat (first | exact (Kd.C_below HR0.out HB.out) | (with_reducible refine Kd.C_alloc ?_ _) | (with_reducible refine Kd.C_drewN ?_ _) | (with_reducible refine Kd.C_drew ?_))); (case side2 => exact HC0.out); rintro e w44 ⟨rfl, hb⟩; refine ⟨_, rfl, ?_⟩; have n0_ := Aside0.mk (below_step (by repeat (first | (with_reducible first | exact HB.out | apply below_alloc | apply pw_below_drewN | apply below_drew1) | exact HB.out)) hb); clear HB; have HB := n0_; clear n0_; (try clear hb); (try clear hb2); (try clear hk); (try clear hi)) | ((with_reducible refine gate_callee (f := 25) rfl ?_); refine goesL_ (some 67) rfl rfl Try.func25 (by kernel_rfl) rfl #[.int .i64 t169] rfl (by (try simp only [List.map_toArray, List.map_cons, List.map_nil]); first | done | rfl | (simp only [List.length_drop, List.length_take]; rfl)) ?_; (with_reducible refine (gantrylaw7_num.calls t169 t178 _ A15.out).mono ?_); rintro e w' ⟨rfl, ⟨nd, rfl⟩⟩; refine ⟨_, rfl, ?_⟩))
                                go_ret
                                exact ⟨by first | rfl | (simp [errW_none, errW_some] <;> rfl) | (simp [*, errW_none, errW_some] <;> rfl), by repeat (first | (with_reducible first | exact HB.out | apply below_alloc | apply pw_below_drewN | apply below_drew1) | exact HB.out)⟩
                    · rw [if_neg c16] at H
                      have c16b0 : (t178 == 0) = false := beq_eq_false_iff_ne.mpr c16
                      have c16b1 : (t178 != 0) = true := bne_iff_ne.mpr c16
                      obtain rfl := Option.some.inj H
                      have p167 : 0 ≤ (a1 : Int) := of_decide_eq_true (by first | (with_reducible assumption) | assumption)
                      have q167 : a1 < (l0.length : Int) := of_decide_eq_true (by first | (with_reducible assumption) | assumption)
                      obtain ⟨ad167, A167_3, c167_3, e167, hx167_0, hx167_1, hx167_2, hx167_3, hl167_3, hi167_3⟩ := at_T124 HR0.out a1 p167 q167
                      obtain rfl : ad166 = ad167 := (by injection e167)
                      replace hx167_0 := (HB.out.cell (World.block_lt_of_cell? w _ hx167_0)).trans hx167_0
                      replace hx167_1 := (HB.out.cell (World.block_lt_of_cell? w _ hx167_1)).trans hx167_1
                      replace hx167_2 := (HB.out.cell (World.block_lt_of_cell? w _ hx167_2)).trans hx167_2
                      replace hx167_3 := (HB.out.cell (World.block_lt_of_cell? w _ hx167_3)).trans hx167_3
                      have HR167_3 := Aside0.mk hi167_3
                      have HC167_3 := Aside0.mk hl167_3
                      clear hi167_3 hl167_3
                      replace p167 := eq_true p167
                      replace q167 := eq_true q167
                      go_wp2_with (first | ((with_reducible refine gate_callee (f := 83) rfl ?_); refine goesL_ (some 37) rfl rfl Try.func83 (by kernel_rfl) rfl #[.slice (some ad166) l0.length c0, .int .i64 a1, .int .i64 x10_1] rfl (by (try simp only [List.map_toArray, List.map_cons, List.map_nil]); first | done | rfl | (simp only [List.length_drop, List.length_take]; rfl)) ?_; (with_reducible refine (types_Offset.calls _ _ l0 a1 x10_1 t168 t169 _ ?side1 ?side2 A11.out).mono ?_); (case side1 => repeat (first | exact (Kd.C_below HR0.out HB.out) | (with_reducible refine Kd.C_alloc ?_ _) | (with_reducible refine Kd.C_drewN ?_ _) | (with_reducible refine Kd.C_drew ?_))); (case side2 => exact HC0.out); rintro e w45 ⟨rfl, hb⟩; refine ⟨_, rfl, ?_⟩; have n0_ := Aside0.mk (below_step (by repeat (first | (with_reducible first | exact HB.out | apply below_alloc | apply pw_below_drewN | apply below_drew1) | exact HB.out)) hb); clear HB; have HB := n0_; clear n0_; (try clear hb); (try clear hb2); (try clear hk); (try clear hi); have p170 : 0 ≤ (a1 : Int) := of_decide_eq_true (by first | (with_reducible assumption) | assumption); have q170 : a1 < (l0.length : Int) := of_decide_eq_true (by first | (with_reducible assumption) | assumption); obtain ⟨ad170, A170_3, c170_3, e170, hx170_0, hx170_1, hx170_2, hx170_3, hl170_3, hi170_3⟩ := at_T124 HR0.out a1 p170 q170; obtain rfl : ad166 = ad170 := (by injection e170); replace hx170_0 := (HB.out.cell (World.block_lt_of_cell? w _ hx170_0)).trans hx170_0; replace hx170_1 := (HB.out.cell (World.block_lt_of_cell? w _ hx170_1)).trans hx170_1; replace hx170_2 := (HB.out.cell (World.block_lt_of_cell? w _ hx170_2)).trans hx170_2; replace hx170_3 := (HB.out.cell (World.block_lt_of_cell? w _ hx170_3)).trans hx170_3; have HR170_3 := Aside0.mk hi170_3; have HC170_3 := Aside0.mk hl170_3; clear hi170_3 hl170_3; replace p170 := eq_true p170; replace q170 := eq_true q170; have p171 : 0 ≤ (x10_1 : Int) := of_decide_eq_true (by first | (with_reducible assumption) | assumption); have q171 : x10_1 < (((rd_T124 l0 a1).f3).length : Int) := of_decide_eq_true (by first | (with_reducible assumption) | assumption); obtain ⟨ad171, e171, hx171_0⟩ := Kd.at_int HR170_3.out x10_1 p171 q171; cases e171; replace hx171_0 := (HB.out.cell (World.block_lt_of_cell? w _ hx171_0)).trans hx171_0; replace p171 := eq_true p171; replace q171 := eq_true q171) | ((with_reducible refine gate_callee (f := 28) rfl ?_); refine goesL_ (some 50) rfl rfl Try.func28 (by kernel_rfl) rfl #[.slice (some ad166) l0.length c0, .int .i64 (rd ((rd_T124 l0 a1).f3) x10_1)] rfl (by (try simp only [List.map_toArray, List.map_cons, List.map_nil]); first | done | rfl | (simp only [List.length_drop, List.length_take]; rfl)) ?_; (with_reducible refine (types_Size.calls _ _ l0 (rd ((rd_T124 l0 a1).f3) x10_1) t172 t173 _ ?side1 ?side2 A13.out).mono ?_); (case side1 => repeat (first | exact (Kd.C_below HR0.out HB.out) | (with_reducible refine Kd.C_alloc ?_ _) | (with_reducible refine Kd.C_drewN ?_ _) | (with_reducible refine Kd.C_drew ?_))); (case side2 => exact HC0.out); rintro e w46 ⟨rfl, hb⟩; refine ⟨_, rfl, ?_⟩; have n0_ := Aside0.mk (below_step (by repeat (first | (with_reducible first | exact HB.out | apply below_alloc | apply pw_below_drewN | apply below_drew1) | exact HB.out)) hb); clear HB; have HB := n0_; clear n0_; (try clear hb); (try clear hb2); (try clear hk); (try clear hi); have p174 : 0 ≤ (a1 : Int) := of_decide_eq_true (by first | (with_reducible assumption) | assumption); have q174 : a1 < (l0.length : Int) := of_decide_eq_true (by first | (with_reducible assumption) | assumption); obtain ⟨ad174, A174_3, c174_3, e174, hx174_0, hx174_1, hx174_2, hx174_3, hl174_3, hi174_3⟩ := at_T124 HR0.out a1 p174 q174; obtain rfl : ad166 = ad174 := (by injection e174); replace hx174_0 := (HB.out.cell (World.block_lt_of_cell? w _ hx174_0)).trans hx174_0; replace hx174_1 := (HB.out.cell (World.block_lt_of_cell? w _ hx174_1)).trans hx174_1; replace hx174_2 := (HB.out.cell (World.block_lt_of_cell? w _ hx174_2)).trans hx174_2; replace hx174_3 := (HB.out.cell (World.block_lt_of_cell? w _ hx174_3)).trans hx174_3; have HR174_3 := Aside0.mk hi174_3; have HC174_3 := Aside0.mk hl174_3; clear hi174_3 hl174_3; replace p174 := eq_true p174; replace q174 := eq_true q174; have p175 : 0 ≤ (x10_1 : Int) := of_decide_eq_true (by first | (with_reducible assumption) | assumption); have q175 : x10_1 < (((rd_T124 l0 a1).f3).length : Int) := of_decide_eq_true (by first | (with_reducible assumption) | assumption); obtain ⟨ad175, e175, hx175_0⟩ := Kd.at_int HR174_3.out x10_1 p175 q175; cases e175; replace hx175_0 := (HB.out.cell (World.block_lt_of_cell? w _ hx175_0)).trans hx175_0; replace p175 := eq_true p175; replace q175 := eq_true q175) | ((with_reducible refine gate_callee (f := 29) rfl ?_); refine goesL_ (some 63) rfl rfl Try.func29 (by kernel_rfl) rfl #[.slice (some ad166) l0.length c0, .int .i64 (rd ((rd_T124 l0 a1).f3) x10_1)] rfl (by (try simp only [List.map_toArray, List.map_cons, List.map_nil]); first | done | rfl | (simp only [List.length_drop, List.length_take]; rfl)) ?_; (with_reducible refine (types_Align.calls _ _ l0 (rd ((rd_T124 l0 a1).f3) x10_1) t176 t177 _ ?side1 ?side2 A14.out).mono ?_); (case side1 => repeat (first | exact (Kd.C_below HR0.out HB.out) | (with_reducible refine Kd.C_alloc ?_ _) | (with_reducible refine Kd.C_drewN ?_ _) | (with_reducible refine Kd.C_drew ?_))); (case side2 => exact HC0.out); rintro e w47 ⟨rfl, hb⟩; refine ⟨_, rfl, ?_⟩; have n0_ := Aside0.mk (below_step (by repeat (first | (with_reducible first | exact HB.out | apply below_alloc | apply pw_below_drewN | apply below_drew1) | exact HB.out)) hb); clear HB; have HB := n0_; clear n0_; (try clear hb); (try clear hb2); (try clear hk); (try clear hi)) | ((with_reducible refine gate_callee (f := 25) rfl ?_); refine goesL_ (some 67) rfl rfl Try.func25 (by kernel_rfl) rfl #[.int .i64 t169] rfl (by (try simp only [List.map_toArray, List.map_cons, List.map_nil]); first | done | rfl | (simp only [List.length_drop, List.length_take]; rfl)) ?_; (with_reducible refine (gantrylaw7_num.calls t169 t178 _ A15.out).mono ?_); rintro e w' ⟨rfl, ⟨nd, rfl⟩⟩; refine ⟨_, rfl, ?_⟩))
                      go_ret
                      exact ⟨by first | rfl | (simp [errW_none, errW_some] <;> rfl) | (simp [*, errW_none, errW_some] <;> rfl), by repeat (first | (with_reducible first | exact HB.out | apply below_alloc | apply pw_below_drewN | apply below_drew1) | exact HB.out)⟩
                  · rw [if_neg c12] at H
                    exact absurd H (by simp)
                · rw [if_neg c10] at H
                  have c10b0 : decide (x10_1 < (((rd_T124 l0 a1).f3).length : Int)) = false := decide_eq_false c10
                  clear c10
                  obtain rfl := Option.some.inj H
                  have p167 : 0 ≤ (a1 : Int) := of_decide_eq_true (by first | (with_reducible assumption) | assumption)
                  have q167 : a1 < (l0.length : Int) := of_decide_eq_true (by first | (with_reducible assumption) | assumption)
                  obtain ⟨ad167, A167_3, c167_3, e167, hx167_0, hx167_1, hx167_2, hx167_3, hl167_3, hi167_3⟩ := at_T124 HR0.out a1 p167 q167
                  obtain rfl : ad166 = ad167 := (by injection e167)
                  replace hx167_0 := (HB.out.cell (World.block_lt_of_cell? w _ hx167_0)).trans hx167_0
                  replace hx167_1 := (HB.out.cell (World.block_lt_of_cell? w _ hx167_1)).trans hx167_1
                  replace hx167_2 := (HB.out.cell (World.block_lt_of_cell? w _ hx167_2)).trans hx167_2
                  replace hx167_3 := (HB.out.cell (World.block_lt_of_cell? w _ hx167_3)).trans hx167_3
                  have HR167_3 := Aside0.mk hi167_3
                  have HC167_3 := Aside0.mk hl167_3
                  clear hi167_3 hl167_3
                  replace p167 := eq_true p167
                  replace q167 := eq_true q167
                  go_wp2
                  go_ret
                  exact ⟨by first | rfl | (simp [errW_none, errW_some] <;> rfl) | (simp [*, errW_none, errW_some] <;> rfl), by repeat (first | (with_reducible first | exact HB.out | apply below_alloc | apply pw_below_drewN | apply below_drew1) | exact HB.out)⟩
              · rw [if_neg c9] at H
                exact absurd H (by simp)
            · rw [if_neg c8] at H
              exact absurd H (by simp)
      · rw [if_neg c7] at H
        have c7b0 : (((rd_T124 l0 a1).f0) == 13) = false := beq_eq_false_iff_ne.mpr c7
        have c7b1 : (((rd_T124 l0 a1).f0) != 13) = true := bne_iff_ne.mpr c7
        obtain rfl := Option.some.inj H
        have p166 : 0 ≤ (a1 : Int) := of_decide_eq_true (by first | (with_reducible assumption) | assumption)
        have q166 : a1 < (l0.length : Int) := of_decide_eq_true (by first | (with_reducible assumption) | assumption)
        obtain ⟨ad166, A166_3, c166_3, e166, hx166_0, hx166_1, hx166_2, hx166_3, hl166_3, hi166_3⟩ := at_T124 HR0.out a1 p166 q166
        cases e166
        have HR166_3 := Aside0.mk hi166_3
        have HC166_3 := Aside0.mk hl166_3
        clear hi166_3 hl166_3
        replace p166 := eq_true p166
        replace q166 := eq_true q166
        go_enter Try.func30, Try.ntmps30
        go_wp2
        go_ret
        exact ⟨by first | rfl | (simp [errW_none, errW_some] <;> rfl) | (simp [*, errW_none, errW_some] <;> rfl), by repeat (first | (with_reducible first | exact HB.out | apply below_alloc | apply pw_below_drewN | apply below_drew1) | exact HB.out)⟩
    · rw [if_neg c6] at H
      exact absurd H (by simp)
  · rw [if_neg c5] at H
    exact absurd H (by simp)

-- NOT PRINTED: function 122 (slices_Clone_int_int)

end Go.Proofs.Ytekoogedhmhpgaa.Q
