/- Plain: abi.Places and the reference's Places tell the same. -/
import Derived.Test.YtekoogedhmhpgaaTypesExactE3
import Derived.Test.YtekoogedhmhpgaaHandRE3
import Derived.Test.YtekoogedhmhpgaaVx14E3
namespace Go.Proofs.Ytekoogedhmhpgaa
open Go.RowKit Go.Proofs.YtekoogedhmhpgaaW.PrintWords
open Q
set_option linter.unusedVariables false

theorem handF_all (t : List S124) : ∀ (l : List Int) (st : Int × Int × List Place), (l.all (isVal t) = true → (handF t st l).2.2 = 0) ∧ (l.all (isVal t) = false → handF t st l = ([], 0, 120)) := by
  intro l
  induction l with
  | nil => exact fun st => ⟨fun _ => rfl, fun h => (by simp at h)⟩
  | cons i l ih =>
    intro st
    rw [List.all_cons]
    cases hv : isVal t i with
    | true => simp only [handF, hv, if_true, Bool.true_and]; exact ih _
    | false => simp only [handF, hv, Bool.false_and]; exact ⟨fun h => (by cases h), fun _ => rfl⟩
theorem nW_le (t : List S124) {i : Int} (h : isVal t i = true) : nW t i ≤ 16 := by
  unfold isVal at h
  simp only [Bool.and_eq_true, decide_eq_true_eq] at h
  exact (entry_good (t := t) (i := i) (x := (entryR t i).1) (by rw [← h.1])).1.kinds
theorem handF_bd (t : List S124) : ∀ (l : List Int) (nx sl : Int) (acc : List Place), l.all (isVal t) = true → sl ≤ (handF t (nx, sl, acc) l).2.1 ∧ (handF t (nx, sl, acc) l).2.1 ≤ sl + 16 * l.length ∧ (handF t (nx, sl, acc) l).1.length ≤ acc.length + 16 * l.length := by
  intro l
  induction l with
  | nil => intro nx sl acc _; simp [handF]
  | cons i l ih =>
    intro nx sl acc h
    rw [List.all_cons, Bool.and_eq_true] at h
    have hn := nW_le t h.1
    simp only [handF, h.1, if_true, putW]
    split
    · have := ih (nx + nW t i) sl (acc ++ regs nx (nW t i)) h.2
      rw [List.length_append, regs_len] at this
      simp only [List.length_cons]
      omega
    · have := ih nx (sl + nW t i) (acc ++ stks sl (nW t i)) h.2
      rw [List.length_append, stks_len] at this
      simp only [List.length_cons]
      omega
/-- What both tell. -/
def placesR (t : List S124) (ps rs : List Int) : List Place × List Place × Int × Int :=
  if (liesR t).2 ≠ 0 then ([], [], 0, (liesR t).2)
  else if ¬ (ps.length ≤ 8 ∧ rs.length ≤ 8 ∧ ps.all (isVal t) = true ∧ rs.all (isVal t) = true) then ([], [], 0, 120)
  else ((handF t (0, 0, []) ps).1, (handF t (0, (handF t (0, 0, []) ps).2.1, []) rs).1, (handF t (0, (handF t (0, 0, []) ps).2.1, []) rs).2.1, 0)

theorem abiPlaces_ev {t : List S124} (ht : okT t) (ps rs : List Int) : Ev (fun k => abi_Places.f k t ps rs) (placesR t ps rs) := by
  have j0t : Ev (fun k => abi_Places.j0 k t ps rs true) ([], [], 0, 120) := by
    refine Ev.unroll ?_
    simp only [abi_Places.j0]
    exact Ev.pos (by first | exact trivial | rfl) (Ev.now _)
  simp only [abi_Places.f]
  refine Ev.bind_const (show types_Check.f t = some (liesR t).2 from if_pos ht.lenB) ?_
  unfold placesR
  by_cases h0 : (liesR t).2 = 0
  · refine Ev.pos h0 ?_
    rw [if_neg (by simpa using h0)]
    by_cases h1 : (ps.length : Int) > 8
    · refine Ev.pos h1 ?_
      rw [if_pos (by omega)]
      exact j0t
    · refine Ev.neg h1 ?_
      by_cases h2 : (rs.length : Int) > 8
      · rw [show decide ((rs.length : Int) > 8) = true by simpa using h2, if_pos (by omega)]
        exact j0t
      · rw [show decide ((rs.length : Int) > 8) = false by simpa using h2]
        refine Ev.unroll ?_
        simp only [abi_Places.j0]
        refine Ev.neg (by simp) ?_
        have hf1 : abi_hand.f t ps 0 = some (handF t (0, 0, []) ps) := if_pos ⟨ht.lenB, by omega, by omega, by omega⟩
        refine Ev.bind_const hf1 ?_
        cases hp : ps.all (isVal t) with
        | false =>
          rw [(handF_all t ps (0, 0, [])).2 hp, if_pos (fun h => Bool.false_ne_true h.2.2.1)]
          exact Ev.neg (by decide) (Ev.now _)
        | true =>
          have hb := handF_bd t ps 0 0 [] hp
          refine Ev.pos ((handF_all t ps (0, 0, [])).1 hp) ?_
          have hf2 : abi_hand.f t rs (handF t (0, 0, []) ps).2.1 = some (handF t (0, (handF t (0, 0, []) ps).2.1, []) rs) := if_pos ⟨ht.lenB, by omega, by omega, by omega⟩
          refine Ev.bind_const hf2 ?_
          cases hr : rs.all (isVal t) with
          | false =>
            rw [(handF_all t rs _).2 hr, if_pos (fun h => Bool.false_ne_true h.2.2.2)]
            exact Ev.neg (by decide) (Ev.now _)
          | true =>
            refine Ev.pos ((handF_all t rs _).1 hr) ?_
            rw [if_neg (fun h => h ⟨by omega, by omega, rfl, rfl⟩)]
            exact Ev.now _
  · refine Ev.neg h0 ?_
    rw [if_pos h0]
    exact Ev.now _

theorem may_ev {t : List S124} (ht : okT t) (h0 : (liesR t).2 = 0) (l : List Int) (hl : l.length ≤ 1000) : Ev (fun k => gantryref11_may.f k t l) (l.all (isVal t) && decide (l.length ≤ 8)) := by
  have hls : Lies t (liesR t).1 := ⟨ht, by rw [← h0]⟩
  have key : ∀ (m j : Nat), l.length - j = m → j ≤ l.length → Ev (fun k => gantryref11_may.l0 k t l j) ((l.drop j).all (isVal t) && decide (l.length ≤ 8)) := by
    intro m
    induction m with
    | zero =>
      intro j hm hj
      refine Ev.unroll ?_
      simp only [gantryref11_may.l0]
      rw [List.drop_eq_nil_of_le (by omega), List.all_nil, Bool.true_and]
      refine Ev.neg (by omega) (Ev.const ?_)
      congr 1
      rw [Bool.eq_iff_iff]
      simp
      omega
    | succ m ih =>
      intro j hm hj
      have hlt : j < l.length := by omega
      refine Ev.unroll ?_
      simp only [gantryref11_may.l0]
      rw [rd_get hlt, List.drop_eq_getElem_cons hlt, List.all_cons]
      refine Ev.pos (by omega) (Ev.pos (by omega) ?_)
      by_cases hi : 0 ≤ l[j] ∧ l[j] < t.length
      · have his : gantryref7_Is.f t l[j] = some true := by unfold gantryref7_Is.f; rw [if_pos hi.1]; simp [hi.2]
        have he := hls.entry hi.1 hi.2
        have hv : isVal t l[j] = (Go.Proofs.Ytekoogedhmhpgaa.rd_T130 (liesR t).1 l[j]).f2 := by unfold isVal; rw [he]; simp
        have hw : gantryref7_Value.f t l[j] = some (isVal t l[j]) := by
          unfold gantryref7_Value.f gantryref7_Words.f
          rw [if_pos ⟨ht.B, h0, hi.1, hi.2⟩, hv]
          rfl
        refine Ev.bind_const his (Ev.pos (by first | exact trivial | rfl) (Ev.bind_const hw ?_))
        cases hvv : isVal t l[j] with
        | true =>
          refine Ev.pos (by first | exact trivial | rfl) ?_
          rw [Bool.true_and, w64_nat (by omega)]
          exact ih (j + 1) (by omega) (by omega)
        | false => exact Ev.neg (by simp) (Ev.const (by simp))
      · have his : gantryref7_Is.f t l[j] = some false := by
          unfold gantryref7_Is.f
          by_cases h1 : l[j] ≥ 0
          · rw [if_pos h1]; simp; omega
          · rw [if_neg h1]
        have hv : isVal t l[j] = false := by unfold isVal; rw [entryR_out h0 hls.len hi]; rfl
        rw [hv, Bool.false_and, Bool.false_and]
        exact Ev.bind_const his (Ev.neg (by simp) (Ev.now _))
  exact key _ 0 rfl (Nat.zero_le _)

theorem refPlaces_ev {t : List S124} (ht : okT t) (ps rs : List Int) (hp : ps.length ≤ 100) (hr : rs.length ≤ 100) : Ev (fun k => gantryref11_Places.f k t ps rs) (placesR t ps rs) := by
  have j0t : Ev (fun k => gantryref11_Places.j0 k t ps rs true) ([], [], 0, 120) := by
    refine Ev.unroll ?_
    simp only [gantryref11_Places.j0]
    exact Ev.pos (by first | exact trivial | rfl) (Ev.now _)
  simp only [gantryref11_Places.f]
  refine Ev.bind (refCheck_ev ht) ?_
  unfold placesR
  by_cases h0 : (liesR t).2 = 0
  · refine Ev.pos h0 (Ev.bind (may_ev ht h0 ps (by omega)) ?_)
    rw [if_neg (by simpa using h0)]
    by_cases h1 : ps.all (isVal t) = true ∧ ps.length ≤ 8
    · refine Ev.pos (by simp [h1.1, h1.2]) (Ev.bind (may_ev ht h0 rs (by omega)) ?_)
      by_cases h2 : rs.all (isVal t) = true ∧ rs.length ≤ 8
      · rw [show (!(rs.all (isVal t) && decide (rs.length ≤ 8))) = false by simp only [h2.1, h2.2, decide_true]; rfl, if_neg (by simp [h1.1, h1.2, h2.1, h2.2])]
        refine Ev.unroll ?_
        simp only [gantryref11_Places.j0]
        have hb := handF_bd t ps 0 0 [] h1.1
        have hf1 : gantryref11_places.f t ps 0 = some ((handF t (0, 0, []) ps).1, (handF t (0, 0, []) ps).2.1) := if_pos ⟨ht.B, h0, by omega, h1.1, by omega, by omega⟩
        have hf2 : gantryref11_places.f t rs (handF t (0, 0, []) ps).2.1 = some ((handF t (0, (handF t (0, 0, []) ps).2.1, []) rs).1, (handF t (0, (handF t (0, 0, []) ps).2.1, []) rs).2.1) := if_pos ⟨ht.B, h0, by omega, h2.1, by omega, by omega⟩
        exact Ev.neg (by simp) (Ev.bind_const hf1 (Ev.bind_const hf2 (Ev.now _)))
      · rw [show (!(rs.all (isVal t) && decide (rs.length ≤ 8))) = true by
            rw [Bool.not_eq_true', Bool.and_eq_false_iff]
            by_cases h3 : rs.all (isVal t) = true
            · right; simp only [decide_eq_false_iff_not]; exact fun h => h2 ⟨h3, h⟩
            · left; simpa using h3, if_pos (fun h => h2 ⟨h.2.2.2, h.2.1⟩)]
        exact j0t
    · refine Ev.neg (by simp only [Bool.and_eq_true, decide_eq_true_eq]; exact h1) ?_
      rw [if_pos (fun h => h1 ⟨h.2.2.1, h.1⟩)]
      exact j0t
  · refine Ev.neg h0 ?_
    rw [if_pos h0]
    exact Ev.now _

theorem placesR_len (t : List S124) (ps rs : List Int) : (placesR t ps rs).1.length ≤ 128 ∧ (placesR t ps rs).2.1.length ≤ 128 := by
  unfold placesR
  split
  · simp
  · split
    · simp
    · rename_i h
      have h' : ps.length ≤ 8 ∧ rs.length ≤ 8 ∧ ps.all (isVal t) = true ∧ rs.all (isVal t) = true := Classical.not_not.1 h
      have h1 := handF_bd t ps 0 0 [] h'.2.2.1
      have h2 := handF_bd t rs 0 (handF t (0, 0, []) ps).2.1 [] h'.2.2.2
      simp only [List.length_nil] at h1 h2 ⊢
      omega

theorem eqPlaces_ev (l : List Place) (hl : l.length ≤ 1000) : Ev (fun k => gantryref0_EqPlaces.f k l l) true := by
  have key : ∀ (m j : Nat), l.length - j = m → Ev (fun k => gantryref0_EqPlaces.l0 k l l j) true := by
    intro m
    induction m with
    | zero =>
      intro j hm
      refine Ev.unroll ?_
      simp only [gantryref0_EqPlaces.l0]
      exact Ev.neg (by omega) (Ev.now _)
    | succ m ih =>
      intro j hm
      refine Ev.unroll ?_
      simp only [gantryref0_EqPlaces.l0]
      refine Ev.pos (by omega) (Ev.pos (by omega) (Ev.pos (by omega) (Ev.neg (by simp) ?_)))
      rw [w64_nat (by omega)]
      exact ih (j + 1) (by omega)
  simp only [gantryref0_EqPlaces.f]
  exact Ev.pos (by first | exact trivial | rfl) (key _ 0 rfl)
theorem wakes11_f : ∃ k, gantrylaw11_wakes.f k = some true := ⟨20, by decide +kernel⟩
end Go.Proofs.Ytekoogedhmhpgaa

