/- Plain: the law TypesExact holds of what the program computes. -/
import Derived.Test.YtekoogedhmhpgaaRefLayE3
import Derived.Test.YtekoogedhmhpgaaLotsWE3
import Derived.Test.YtekoogedhmhpgaaQx0E3
import Derived.Test.YtekoogedhmhpgaaQx10E3
import Derived.Test.YtekoogedhmhpgaaQx5E3
import Derived.Test.YtekoogedhmhpgaaQx6E3
import Derived.Test.YtekoogedhmhpgaaQx8E3
import Derived.Test.YtekoogedhmhpgaaQx9E3
import Derived.Test.YtekoogedhmhpgaaQGivenE3
namespace Go.Proofs.Ytekoogedhmhpgaa
open Go.RowKit Go.Proofs.YtekoogedhmhpgaaW.PrintWords
open Q
set_option linter.unusedVariables false

theorem ahead_l (F : List Int) (a : Int) (hF : F.length ≤ 17592186043904) : ∀ (m j : Nat), F.length - j = m → j ≤ F.length → Ev (fun k => gantryref7_ahead.l0 k F a j) ((F.drop j).all (entryB · a)) := by
  intro m
  induction m with
  | zero =>
    intro j hm hj
    refine Ev.unroll ?_
    simp only [gantryref7_ahead.l0]
    rw [List.drop_eq_nil_of_le (by omega)]
    exact Ev.neg (by omega) (Ev.now _)
  | succ m ih =>
    intro j hm hj
    have hlt : j < F.length := by omega
    refine Ev.unroll ?_
    simp only [gantryref7_ahead.l0]
    rw [rd_get hlt, List.drop_eq_getElem_cons hlt, List.all_cons]
    refine Ev.pos (by omega) (Ev.pos (by omega) ?_)
    by_cases h0 : F[j] < 0
    · refine Ev.pos h0 ?_
      rw [show entryB F[j] a = false by simp [entryB]; omega]
      exact Ev.now _
    · refine Ev.neg h0 ?_
      by_cases h1 : F[j] ≥ a
      · refine Ev.pos h1 ?_
        rw [show entryB F[j] a = false by simp [entryB]; omega]
        exact Ev.now _
      · refine Ev.neg h1 ?_
        rw [show entryB F[j] a = true by simp [entryB]; omega, Bool.true_and, w64_nat (by omega)]
        exact ih (j + 1) (by omega) (by omega)
theorem ahead_ev (F : List Int) (a : Int) (hF : F.length ≤ 17592186043904) : Ev (fun k => gantryref7_ahead.f k F a) (F.all (entryB · a)) := ahead_l F a hF _ 0 rfl (Nat.zero_le _)

theorem shp_ptr {K E N : Int} {F : List Int} {a n : Int} (h : K = 11 ∨ K = 14) : shapedB K E N F a n = (entryB E n && decide (N = 0 ∧ F.length = 0)) := by
  unfold shapedB
  rw [if_neg (by omega), if_pos h]
theorem shp_arr {E N : Int} {F : List Int} {a n : Int} : shapedB 12 E N F a n = (entryB E a && decide (0 ≤ N ∧ N ≤ 65536 ∧ F.length = 0)) := rfl
theorem shp_str {E N : Int} {F : List Int} {a n : Int} : shapedB 13 E N F a n = (decide (E = 0 ∧ N = 0 ∧ F.length ≤ 16) && F.all (entryB · a)) := rfl
theorem shp_plain {K E N : Int} {F : List Int} {a n : Int} (h : (1 ≤ K ∧ K ≤ 10) ∨ K = 15) : shapedB K E N F a n = decide (E = 0 ∧ N = 0 ∧ F.length = 0) := by
  unfold shapedB
  rw [if_pos h]
theorem shp_none {K E N : Int} {F : List Int} {a n : Int} (h : ¬ (1 ≤ K ∧ K ≤ 15)) : shapedB K E N F a n = false := by
  unfold shapedB
  rw [if_neg (by omega), if_neg (by omega), if_neg (by omega), if_neg (by omega)]
theorem len0 (F : List Int) : ((F.length : Int) == 0) = decide (F.length = 0) := by
  rw [Bool.eq_iff_iff]
  simp
theorem entryB_true {k e : Int} (h0 : 0 ≤ k) (h1 : k < e) : entryB k e = true := by simp [entryB, h0, h1]
theorem entryB_false {k e : Int} (h : ¬ (0 ≤ k ∧ k < e)) : entryB k e = false := by simp only [entryB, h, decide_false]
theorem entry_ev (K E N : Int) (F : List Int) (at_ n : Int) (hF : F.length ≤ 17592186043904) : Ev (fun k => gantryref7_entry.f k K E N F at_ n) (shapedB K E N F at_ n) := by
  have key1 : ∀ (x7 x19 : Bool), x7 = entryB E n → (x19 = true ↔ K = 11 ∨ K = 14) → Ev (fun k => gantryref7_entry.j1 k at_ x7 K x19 K E N F) (shapedB K E N F at_ n) := by
    intro x7 x19 h7 h19
    refine Ev.unroll ?_
    simp only [gantryref7_entry.j1]
    by_cases h1 : K = 11 ∨ K = 14
    · refine Ev.pos (h19.2 h1) ?_
      rw [shp_ptr h1, ← h7]
      cases x7 with
      | true =>
        refine Ev.pos rfl ?_
        by_cases hN : N = 0
        · exact Ev.pos hN (Ev.const (by rw [len0]; simp [hN]))
        · exact Ev.neg hN (Ev.const (by simp [hN]))
      | false => exact Ev.neg (by simp) (Ev.const rfl)
    · refine Ev.neg (fun h => h1 (h19.1 h)) ?_
      by_cases h2 : K = 12
      · subst h2
        refine Ev.pos rfl ?_
        rw [shp_arr]
        by_cases e0 : E ≥ 0
        · refine Ev.pos e0 ?_
          by_cases e1 : E < at_
          · refine Ev.pos e1 ?_
            rw [entryB_true e0 e1]
            by_cases n0 : N ≥ 0
            · refine Ev.pos n0 ?_
              by_cases n1 : N ≤ 65536
              · refine Ev.pos n1 (Ev.const ?_)
                rw [len0, Bool.true_and]
                by_cases hf : F.length = 0
                · rw [decide_eq_true hf, decide_eq_true ⟨n0, n1, hf⟩]
                · rw [decide_eq_false hf, decide_eq_false (fun h => hf h.2.2)]
              · refine Ev.neg n1 (Ev.const ?_)
                rw [show decide (0 ≤ N ∧ N ≤ 65536 ∧ F.length = 0) = false by simp; omega]
                rfl
            · refine Ev.neg n0 (Ev.const ?_)
              rw [show decide (0 ≤ N ∧ N ≤ 65536 ∧ F.length = 0) = false by simp; omega]
              rfl
          · exact Ev.neg e1 (Ev.const (by rw [entryB_false (by omega), Bool.false_and]))
        · exact Ev.neg e0 (Ev.const (by rw [entryB_false (by omega), Bool.false_and]))
      · refine Ev.neg h2 ?_
        by_cases h3 : K = 13
        · subst h3
          refine Ev.pos rfl ?_
          rw [shp_str]
          by_cases e0 : E = 0
          · refine Ev.pos e0 ?_
            by_cases n0 : N = 0
            · refine Ev.pos n0 ?_
              by_cases f0 : (F.length : Int) ≤ 16
              · refine Ev.pos f0 (Ev.bind (ahead_ev F at_ hF) (Ev.const ?_))
                rw [show decide (E = 0 ∧ N = 0 ∧ F.length ≤ 16) = true by simp; omega, Bool.true_and]
              · exact Ev.neg f0 (Ev.const (by rw [show decide (E = 0 ∧ N = 0 ∧ F.length ≤ 16) = false by simp; omega, Bool.false_and]))
            · exact Ev.neg n0 (Ev.const (by rw [show decide (E = 0 ∧ N = 0 ∧ F.length ≤ 16) = false by simp; omega, Bool.false_and]))
          · exact Ev.neg e0 (Ev.const (by rw [show decide (E = 0 ∧ N = 0 ∧ F.length ≤ 16) = false by simp; omega, Bool.false_and]))
        · refine Ev.neg h3 ?_
          have tailE : ∀ b : Bool, b = decide (E = 0 ∧ N = 0 ∧ F.length = 0) → Ev (fun _ => (if E = 0 then (if N = 0 then some ((F.length : Int) == 0) else some false) else some false)) b := by
            intro b hb
            subst hb
            by_cases e0 : E = 0
            · refine Ev.pos e0 ?_
              by_cases n0 : N = 0
              · exact Ev.pos n0 (Ev.const (by rw [len0]; simp [e0, n0]))
              · exact Ev.neg n0 (Ev.const (by simp [n0]))
            · exact Ev.neg e0 (Ev.const (by simp [e0]))
          by_cases h4 : K = 15
          · refine Ev.pos h4 ?_
            rw [shp_plain (Or.inr h4)]
            exact tailE _ rfl
          · refine Ev.neg h4 ?_
            by_cases h5 : 1 ≤ K ∧ K ≤ 11
            · rw [shp_plain (Or.inl (by omega))]
              refine Ev.bind_const (a := true) ?_ (Ev.pos rfl (tailE _ rfl))
              unfold gantryref7_Scalar.f gantryref1_Word.f
              rw [if_pos h5.1]
              simp [h5.2]
            · rw [shp_none (by omega)]
              refine Ev.bind_const (a := false) ?_ (Ev.neg (by simp) (Ev.now _))
              unfold gantryref7_Scalar.f gantryref1_Word.f
              by_cases h6 : K ≥ 1
              · rw [if_pos h6]
                simp
                omega
              · rw [if_neg h6]
                rfl
  have key0 : ∀ x7 : Bool, x7 = entryB E n → Ev (fun k => gantryref7_entry.j0 k at_ x7 K E N F) (shapedB K E N F at_ n) := by
    intro x7 h7
    refine Ev.unroll ?_
    simp only [gantryref7_entry.j0]
    by_cases h : K = 11
    · exact Ev.pos h (key1 _ _ h7 (by simp [h]))
    · exact Ev.neg h (key1 _ _ h7 (by simp [h]))
  simp only [gantryref7_entry.f]
  by_cases h : E ≥ 0
  · refine Ev.pos h (key0 _ ?_)
    simp only [entryB]
    rw [Bool.eq_iff_iff]
    simp
    omega
  · exact Ev.neg h (key0 _ (by rw [entryB_false (by omega)]))

theorem Lay_l1 {t : List S124} (ht : okT t) (h64 : t.length ≤ 64) (hs : allShaped t = true) : ∀ (m j : Nat) (lp : List Lie), t.length - j = m → j ≤ t.length → lp.length = j → (∀ x ∈ lp, LieOk x) → (∀ x ∈ lp, AtIn x) →
    Ev (fun k => gantryref7_Lay.l1 k t (lp.map (·.f0)) (lp.map (·.f1)) j) (match liesL lp (t.drop j) with | none => ([], [], 71) | some r => (r.map (·.f0), r.map (·.f1), 0)) := by
  intro m
  induction m with
  | zero =>
    intro j lp hm hj hl ho hi
    obtain rfl : j = t.length := by omega
    refine Ev.unroll ?_
    simp only [gantryref7_Lay.l1]
    rw [List.drop_length, liesL]
    exact Ev.neg (by omega) (Ev.now _)
  | succ m ih =>
    intro j lp hm hj hl ho hi
    have hlt : j < t.length := by omega
    have hsh := shape_at hs hlt
    refine Ev.unroll ?_
    simp only [gantryref7_Lay.l1]
    refine Ev.pos (by omega) (Ev.pos (by omega) (Ev.bind (lay_ev ho (n := t.length) (by rw [hl]; exact hsh)) ?_))
    rw [liesL_step hlt]
    generalize hone : oneL lp (rd_T124 t j).f0 (rd_T124 t j).f1 (rd_T124 t j).f2 (rd_T124 t j).f3 = o
    dsimp only
    by_cases hb : 65536 < o.f0
    · refine Ev.pos hb ?_
      rw [if_pos hb]
      exact Ev.now _
    · refine Ev.neg hb (Ev.pos (by simp; omega) (Ev.pos (by simp; omega) ?_))
      rw [if_neg hb, w64_nat (by omega)]
      have hg := oneL_ok (n := t.length) ho hi (by rw [hl]; exact hsh) (by rw [hone]; omega)
      rw [hone] at hg
      have := ih (j + 1) (lp ++ [o]) (by omega) (by omega) (by simp [hl]) (fun z hz => by
        rcases List.mem_append.1 hz with hz | hz
        · exact ho z hz
        · simp at hz; subst hz; exact hg.1) (fun z hz => by
        rcases List.mem_append.1 hz with hz | hz
        · exact hi z hz
        · simp at hz; subst hz; exact hg.2)
      rw [List.map_append, List.map_append] at this
      exact this
theorem Lay_l0 {t : List S124} (ht : okT t) (h64 : t.length ≤ 64) : ∀ (m j : Nat), t.length - j = m → j ≤ t.length → (∀ i : Nat, i < j → shapeAt t i = true) →
    Ev (fun k => gantryref7_Lay.l0 k t j) (if allShaped t = false then ([], [], 70) else (match liesL [] t with | none => ([], [], 71) | some r => (r.map (·.f0), r.map (·.f1), 0))) := by
  intro m
  induction m with
  | zero =>
    intro j hm hj h
    obtain rfl : j = t.length := by omega
    have hs : allShaped t = true := shaped_all h
    refine Ev.unroll ?_
    simp only [gantryref7_Lay.l0]
    refine Ev.neg (by omega) ?_
    rw [if_neg (by rw [hs]; simp)]
    exact Lay_l1 ht h64 hs _ 0 [] rfl (Nat.zero_le _) rfl (by simp) (by simp)
  | succ m ih =>
    intro j hm hj h
    have hlt : j < t.length := by omega
    have hf : (rd_T124 t j).f3.length ≤ 17592186043904 := ht.2 _ (rdT_mem t hlt)
    refine Ev.unroll ?_
    simp only [gantryref7_Lay.l0]
    refine Ev.pos (by omega) (Ev.pos (by omega) (Ev.bind (entry_ev _ _ _ _ _ _ hf) ?_))
    rw [← shapeAt_def]
    cases hb : shapeAt t j with
    | true =>
      refine Ev.pos (by first | exact trivial | rfl) ?_
      rw [w64_nat (by omega)]
      refine ih (j + 1) (by omega) (by omega) (fun i hi => ?_)
      by_cases hij : i = j
      · rw [hij]; exact hb
      · exact h i (by omega)
    | false =>
      refine Ev.neg (by simp) ?_
      rw [if_pos (shaped_not hlt hb)]
      exact Ev.now _
theorem Lay_ev {t : List S124} (ht : okT t) : Ev (fun k => gantryref7_Lay.f k t) ((liesR t).1.map (·.f0), (liesR t).1.map (·.f1), (liesR t).2) := by
  simp only [gantryref7_Lay.f]
  unfold liesR
  by_cases h : 64 < t.length
  · refine Ev.pos (by omega) ?_
    rw [if_pos h]
    exact Ev.now _
  · refine Ev.neg (by omega) ?_
    rw [if_neg h]
    have := Lay_l0 ht (by omega) _ 0 rfl (Nat.zero_le _) (fun i hi => by omega)
    by_cases hs : allShaped t = false
    · rw [if_pos hs] at this ⊢
      exact this
    · rw [if_neg hs] at this ⊢
      cases hL : liesL [] t with
      | none => rw [hL] at this; exact this
      | some r => rw [hL] at this; exact this
theorem refCheck_ev {t : List S124} (ht : okT t) : Ev (fun k => gantryref7_Check.f k t) (liesR t).2 := by
  simp only [gantryref7_Check.f]
  exact Ev.bind (Lay_ev ht) (Ev.now _)

theorem entryR_out {t : List S124} (h : (liesR t).2 = 0) (hl : (liesR t).1.length = t.length) {i : Int} (hi : ¬ (0 ≤ i ∧ i < t.length)) : entryR t i = (zLie, 70) := by
  unfold entryR
  rw [if_pos h, if_neg (by rw [hl]; exact hi)]
section
variable (L : List S57) (hl : L.length ≤ 140737488351232) (hL : ∀ x ∈ L, okT x.f0 ∧ x.f1.length ≤ 17592186043904 ∧ x.f2.length ≤ 17592186043904)
include hl hL
end
end Go.Proofs.Ytekoogedhmhpgaa

