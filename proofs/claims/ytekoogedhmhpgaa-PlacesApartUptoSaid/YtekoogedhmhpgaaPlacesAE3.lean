/- Plain: what PlacesApart asks of places holds of what placesR tells. -/
import Derived.Test.YtekoogedhmhpgaaPlacesPE3
namespace Go.Proofs.Ytekoogedhmhpgaa
open Go.RowKit Go.Proofs.YtekoogedhmhpgaaW.PrintWords
open Q
set_option linter.unusedVariables false

def putAll (t : List S124) (st : Int × Int × List Place) (l : List Int) : Int × Int × List Place := l.foldl (fun st i => putW (nW t i) st) st
theorem handF_put (t : List S124) : ∀ (l : List Int) (st : Int × Int × List Place), l.all (isVal t) = true → handF t st l = ((putAll t st l).2.2, (putAll t st l).2.1, 0) := by
  intro l
  induction l with
  | nil => exact fun st _ => rfl
  | cons i l ih =>
    intro st h
    rw [List.all_cons, Bool.and_eq_true] at h
    simp only [handF, h.1, if_true]
    rw [ih _ h.2]
    rfl
theorem put_inv {t : List S124} {I : Int × Int × List Place → Prop}
    (hr : ∀ (n : Nat) (nx sl : Int) acc, nx + n ≤ 6 → I (nx, sl, acc) → I (nx + n, sl, acc ++ regs nx n))
    (hs : ∀ (n : Nat) (nx sl : Int) acc, I (nx, sl, acc) → I (nx, sl + n, acc ++ stks sl n)) :
    ∀ (l : List Int) st, I st → I (putAll t st l) := by
  intro l
  induction l with
  | nil => exact fun st h => h
  | cons i l ih =>
    intro st h
    refine ih (putW (nW t i) st) ?_
    obtain ⟨nx, sl, acc⟩ := st
    unfold putW
    split
    · exact hr _ _ _ _ (by assumption) h
    · exact hs _ _ _ _ h
/-- The registers and the slots rise; what they come to. -/
def apEnd : List Place → Int → Int → Option (Int × Int)
  | [], r, s => some (r, s)
  | p :: l, r, s => if p.f0 = true then (if p.f1 ≤ s then none else apEnd l r p.f1) else if p.f1 = r ∧ r < 6 then apEnd l (r + 1) s else none
theorem apEnd_append (a b : List Place) : ∀ r s, apEnd (a ++ b) r s = (apEnd a r s).bind fun q => apEnd b q.1 q.2 := by
  induction a with
  | nil => exact fun r s => rfl
  | cons p a ih =>
    intro r s
    simp only [List.cons_append, apEnd]
    split
    · split
      · rfl
      · exact ih _ _
    · split
      · exact ih _ _
      · rfl
theorem apEnd_regs (nx s : Int) : ∀ n : Nat, nx + n ≤ 6 → apEnd (regs nx n) nx s = some (nx + n, s) := by
  intro n
  induction n with
  | zero => intro _; simp [regs, apEnd]
  | succ n ih =>
    intro h
    rw [regs_succ, apEnd_append, ih (by omega)]
    simp only [Option.bind_some, apEnd]
    rw [if_neg (by decide), if_pos (by simp; omega)]
    simp
    omega
theorem apEnd_stks (r sl s : Int) (h : s < sl) : ∀ n : Nat, ∃ s', apEnd (stks sl n) r s = some (r, s') ∧ s' < sl + n := by
  intro n
  induction n with
  | zero => exact ⟨s, by simp [stks, apEnd], by omega⟩
  | succ n ih =>
    obtain ⟨s', h1, h2⟩ := ih
    refine ⟨sl + n, ?_, by omega⟩
    rw [stks_succ, apEnd_append, h1]
    simp only [Option.bind_some, apEnd]
    rw [if_pos (by decide), if_neg (by omega)]
theorem put_ap (t : List S124) (l : List Int) (sl : Int) (h0 : 0 ≤ sl) : ∃ r s, apEnd (putAll t (0, sl, []) l).2.2 0 (-1) = some (r, s) := by
  obtain ⟨s, h, _⟩ := put_inv (t := t) (I := fun st => ∃ s, apEnd st.2.2 0 (-1) = some (st.1, s) ∧ s < st.2.1)
    (fun n nx sl acc hn h => by
      obtain ⟨s, h1, h2⟩ := h
      refine ⟨s, ?_, h2⟩
      simp only at h1 ⊢
      rw [apEnd_append, h1]
      exact apEnd_regs nx s n hn)
    (fun n nx sl acc h => by
      obtain ⟨s, h1, h2⟩ := h
      obtain ⟨s', h3, h4⟩ := apEnd_stks nx sl s h2 n
      refine ⟨s', ?_, h4⟩
      simp only at h1 ⊢
      rw [apEnd_append, h1]
      exact h3) l (0, sl, []) ⟨-1, rfl, by simp only; omega⟩
  exact ⟨_, _, h⟩
def stackN (l : List Place) : Nat := l.countP fun p => p.f0
theorem regs_N (a : Int) (n : Nat) : stackN (regs a n) = 0 := by
  unfold stackN regs
  rw [List.countP_eq_zero]
  intro p hp
  obtain ⟨k, _, rfl⟩ := List.mem_map.1 hp
  simp
theorem stks_N (a : Int) (n : Nat) : stackN (stks a n) = n := by
  unfold stackN
  rw [List.countP_eq_length.2, stks_len]
  intro p hp
  obtain ⟨k, _, rfl⟩ := List.mem_map.1 hp
  rfl
theorem put_N (t : List S124) (l : List Int) (sl : Int) : (putAll t (0, sl, []) l).2.1 = sl + stackN (putAll t (0, sl, []) l).2.2 := by
  refine put_inv (t := t) (I := fun st => st.2.1 = sl + stackN st.2.2) ?_ ?_ l (0, sl, []) (by simp [stackN])
  · intro n nx sl' acc hn h
    have h1 := regs_N nx n
    simp only [stackN, List.countP_append] at h h1 ⊢
    omega
  · intro n nx sl' acc h
    have h1 := stks_N sl' n
    simp only [stackN, List.countP_append] at h h1 ⊢
    omega
theorem put_in (t : List S124) (l : List Int) (sl : Int) : ∀ p ∈ (putAll t (0, sl, []) l).2.2, p.f0 = true → sl ≤ p.f1 ∧ p.f1 < (putAll t (0, sl, []) l).2.1 := by
  refine (put_inv (t := t) (I := fun st => sl ≤ st.2.1 ∧ ∀ p ∈ st.2.2, p.f0 = true → sl ≤ p.f1 ∧ p.f1 < st.2.1) ?_ ?_ l (0, sl, []) ⟨by simp only; omega, fun p hp => by simp at hp⟩).2
  · intro n nx sl' acc hn h
    refine ⟨h.1, fun p hp hf => ?_⟩
    rcases List.mem_append.1 hp with hp | hp
    · exact h.2 p hp hf
    · obtain ⟨k, _, rfl⟩ := List.mem_map.1 hp
      cases hf
  · intro n nx sl' acc h
    simp only at h ⊢
    refine ⟨by omega, fun p hp hf => ?_⟩
    rcases List.mem_append.1 hp with hp | hp
    · have := h.2 p hp hf
      omega
    · obtain ⟨k, hk, rfl⟩ := List.mem_map.1 hp
      have := List.mem_range.1 hk
      simp only
      omega
def cntW (t : List S124) (l : List Int) : Nat := (l.map (nW t)).sum
theorem put_len (t : List S124) : ∀ (l : List Int) st, (putAll t st l).2.2.length = st.2.2.length + cntW t l := by
  intro l
  induction l with
  | nil => intro st; simp [putAll, cntW]
  | cons i l ih =>
    intro st
    have h1 : (putW (nW t i) st).2.2.length = st.2.2.length + nW t i := by
      unfold putW
      split <;> simp [regs_len, stks_len]
    have h2 := ih (putW (nW t i) st)
    rw [h1] at h2
    have h3 : cntW t (i :: l) = nW t i + cntW t l := by simp [cntW]
    rw [h3]
    show (putAll t (putW (nW t i) st) l).2.2.length = _
    omega
theorem put_pre (t : List S124) : ∀ (l : List Int) st, st.2.2 <+: (putAll t st l).2.2 := by
  intro l
  induction l with
  | nil => exact fun st => List.prefix_refl _
  | cons i l ih =>
    intro st
    refine List.IsPrefix.trans ?_ (ih (putW (nW t i) st))
    unfold putW
    split
    · exact List.prefix_append _ _
    · exact List.prefix_append _ _
theorem put_app (t : List S124) (a b : List Int) (st : Int × Int × List Place) : putAll t st (a ++ b) = putAll t (putAll t st a) b := by
  unfold putAll
  rw [List.foldl_append]

theorem count_ev {t : List S124} (ht : okT t) (h0 : (liesR t).2 = 0) (l : List Int) (hl : l.length ≤ 1000) (hv : l.all (isVal t) = true) : Ev (fun k => gantrylaw11_count.f k t l) (cntW t l : Int) := by
  have hn : ∀ i ∈ l, nW t i ≤ 16 := fun i hi => nW_le t (List.all_eq_true.1 hv i hi)
  have hb : ∀ j, cntW t (l.take j) ≤ 16 * j := by
    intro j
    induction j with
    | zero => simp [cntW]
    | succ j ih =>
      by_cases hj : j < l.length
      · have := hn l[j] (List.getElem_mem _)
        rw [List.take_succ_eq_append_getElem hj]
        simp only [cntW, List.map_append, List.sum_append, List.map_cons, List.map_nil, List.sum_cons, List.sum_nil] at ih ⊢
        omega
      · rw [List.take_of_length_le (by omega)]
        rw [List.take_of_length_le (by omega)] at ih
        omega
  have key : ∀ (m j : Nat), l.length - j = m → j ≤ l.length → Ev (fun k => gantrylaw11_count.l0 k t l (cntW t (l.take j) : Int) j) (cntW t l : Int) := by
    intro m
    induction m with
    | zero =>
      intro j hm hj
      obtain rfl : j = l.length := by omega
      refine Ev.unroll ?_
      simp only [gantrylaw11_count.l0]
      rw [List.take_length]
      exact Ev.neg (by omega) (Ev.now _)
    | succ m ih =>
      intro j hm hj
      have hlt : j < l.length := by omega
      refine Ev.unroll ?_
      simp only [gantrylaw11_count.l0]
      rw [rd_get hlt]
      refine Ev.pos (by omega) (Ev.pos (by omega) (Ev.bind_const (isVal_ref ht h0 (List.all_eq_true.1 hv _ (List.getElem_mem hlt))).1 ?_))
      have h1 : ((cntW t (l.take j) : Nat) : Int) + ((entryR t l[j]).1.f3.length : Int) = ((cntW t (l.take (j + 1)) : Nat) : Int) := by
        rw [List.take_succ_eq_append_getElem hlt]
        simp only [cntW, List.map_append, List.sum_append, List.map_cons, List.map_nil, List.sum_cons, List.sum_nil, nW]
        omega
      have h2 := hb (j + 1)
      dsimp only
      rw [h1, w64_in (by omega) (by omega), w64_nat (by omega)]
      exact ih (j + 1) (by omega) (by omega)
  exact key _ 0 rfl (Nat.zero_le _)
theorem rdP_get {F : List Place} {j : Nat} (h : j < F.length) : rd_T85 F (j : Int) = F[j] := by
  unfold rd_T85
  rw [List.getD_eq_getElem?_getD, Int.toNat_natCast, List.getElem?_eq_getElem h]
  rfl
theorem apart_ev (l : List Place) (hl : l.length ≤ 1000) {q : Int × Int} (h : apEnd l 0 (-1) = some q) : Ev (fun k => gantrylaw11_apart.f k l) true := by
  have key : ∀ (m j : Nat) (r s : Int), l.length - j = m → j ≤ l.length → 0 ≤ r → r ≤ 6 → apEnd (l.drop j) r s = some q → Ev (fun k => gantrylaw11_apart.l0 k l r s j) true := by
    intro m
    induction m with
    | zero =>
      intro j r s hm hj h0 h1 h
      refine Ev.unroll ?_
      simp only [gantrylaw11_apart.l0]
      exact Ev.neg (by omega) (Ev.now _)
    | succ m ih =>
      intro j r s hm hj h0 h1 h
      have hlt : j < l.length := by omega
      rw [List.drop_eq_getElem_cons hlt, apEnd] at h
      refine Ev.unroll ?_
      simp only [gantrylaw11_apart.l0]
      rw [rdP_get hlt]
      refine Ev.pos (by omega) (Ev.pos (by omega) ?_)
      split at h
      · rename_i hf
        split at h
        · cases h
        · rename_i hle
          refine Ev.pos hf (Ev.neg hle ?_)
          rw [w64_nat (by omega)]
          exact ih (j + 1) _ _ (by omega) (by omega) h0 h1 h
      · rename_i hf
        split at h
        · rename_i hr
          refine Ev.neg hf (Ev.pos hr.1 (Ev.neg (by omega) ?_))
          rw [w64_nat (by omega), w64_in (by omega) (by omega)]
          exact ih (j + 1) _ _ (by omega) (by omega) (by omega) (by omega) h
        · cases h
  exact key _ 0 0 (-1) rfl (Nat.zero_le _) (by omega) (by omega) h

theorem stackN_rd (l : List Place) {q : Nat} (h : q < l.length) : stackN (l.take (q + 1)) = stackN (l.take q) + if (rd_T85 l (q : Int)).f0 = true then 1 else 0 := by
  rw [rdP_get h, List.take_succ_eq_append_getElem h]
  simp only [stackN, List.countP_append, List.countP_cons, List.countP_nil]
  omega
theorem stackN_le (l : List Place) : stackN l ≤ l.length := List.countP_le_length
theorem rdP_mem {l : List Place} {q : Nat} (h : q < l.length) : rd_T85 l (q : Int) ∈ l := by
  rw [rdP_get h]
  exact List.getElem_mem _
/-- What the law asks of one table, of parameters and results that are handed over. -/
structure ApartOk (t : List S124) (ps rs : List Int) (a b : List Place) (s : Int) : Prop where
  ca : Ev (fun k => gantrylaw11_count.f k t ps) (a.length : Int)
  cb : Ev (fun k => gantrylaw11_count.f k t rs) (b.length : Int)
  pa : Ev (fun k => gantrylaw11_apart.f k a) true
  pb : Ev (fun k => gantrylaw11_apart.f k b) true
  sl : ∀ p ∈ b, p.f0 = true → (stackN a : Int) ≤ p.f1 ∧ p.f1 < s
  less : ∃ (n : Nat) (s' : Int), n ≤ a.length ∧ placesR t (ps.take (ps.length - 1)) [] = (a.take n, [], s', 0)
theorem apart_ok {t : List S124} (ht : okT t) (ps rs : List Int) {a b : List Place} {s : Int} (h : placesR t ps rs = (a, b, s, 0)) : ApartOk t ps rs a b s := by
  unfold placesR at h
  by_cases h0 : (liesR t).2 = 0
  · rw [if_neg (by simpa using h0)] at h
    by_cases h1 : ps.length ≤ 8 ∧ rs.length ≤ 8 ∧ ps.all (isVal t) = true ∧ rs.all (isVal t) = true
    · rw [if_neg (fun h => h h1)] at h
      obtain ⟨hp, hr, hvp, hvr⟩ := h1
      rw [handF_put t ps _ hvp] at h
      dsimp only at h
      rw [handF_put t rs _ hvr] at h
      simp only [Prod.mk.injEq, and_true] at h
      obtain ⟨rfl, rfl, rfl⟩ := h
      have hN := put_N t ps 0
      have hbp := handF_bd t ps 0 0 [] hvp
      have hbr := handF_bd t rs 0 (putAll t (0, 0, []) ps).2.1 [] hvr
      rw [handF_put t ps _ hvp] at hbp
      rw [handF_put t rs _ hvr] at hbr
      simp only [List.length_nil] at hbp hbr
      obtain ⟨_, _, e1⟩ := put_ap t ps 0 (by omega)
      obtain ⟨_, _, e2⟩ := put_ap t rs (putAll t (0, 0, []) ps).2.1 (by omega)
      have l1 := put_len t ps (0, 0, [])
      have l2 := put_len t rs (0, (putAll t (0, 0, []) ps).2.1, [])
      simp only [List.length_nil, Nat.zero_add] at l1 l2
      refine ⟨?_, ?_, apart_ev _ (by omega) e1, apart_ev _ (by omega) e2, ?_, ?_⟩
      · rw [l1]
        exact count_ev ht h0 ps (by omega) hvp
      · rw [l2]
        exact count_ev ht h0 rs (by omega) hvr
      · intro p hp hf
        have := put_in t rs _ p hp hf
        omega
      · have hvq : (ps.take (ps.length - 1)).all (isVal t) = true := List.all_eq_true.2 fun i hi => List.all_eq_true.1 hvp i (List.mem_of_mem_take hi)
        have hpre := put_pre t (ps.drop (ps.length - 1)) (putAll t (0, 0, []) (ps.take (ps.length - 1)))
        rw [← put_app, List.take_append_drop] at hpre
        refine ⟨(putAll t (0, 0, []) (ps.take (ps.length - 1))).2.2.length, (putAll t (0, 0, []) (ps.take (ps.length - 1))).2.1, hpre.length_le, ?_⟩
        rw [← List.prefix_iff_eq_take.1 hpre]
        unfold placesR
        rw [if_neg (by simpa using h0), if_neg (fun h => h ⟨by rw [List.length_take]; omega, by simp, hvq, rfl⟩)]
        rw [handF_put t (ps.take (ps.length - 1)) _ hvq]
        rfl
    · rw [if_pos h1] at h
      simp at h
  · rw [if_pos h0] at h
    simp only [Prod.mk.injEq] at h
    exact absurd h.2.2.2 h0
end Go.Proofs.Ytekoogedhmhpgaa

