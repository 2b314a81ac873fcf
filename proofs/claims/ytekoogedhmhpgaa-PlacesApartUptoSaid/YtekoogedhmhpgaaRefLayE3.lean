/- Plain: the reference lays entries as the program does: lay, laid, Offset. -/
import Derived.Test.YtekoogedhmhpgaaTypesLieE3
import Derived.Test.YtekoogedhmhpgaaQx10E3
namespace Go.Proofs.Ytekoogedhmhpgaa
open Go.RowKit Go.Proofs.YtekoogedhmhpgaaW.PrintWords
open Q
abbrev Lie := Go.Proofs.Ytekoogedhmhpgaa.S130

theorem rd_map {lp : List Lie} {f : Lie → Int} {i : Int} (h0 : 0 ≤ i) (h1 : i < lp.length) : rd (lp.map f) i = f (Go.Proofs.Ytekoogedhmhpgaa.rd_T130 lp i) := by
  unfold rd Go.Proofs.Ytekoogedhmhpgaa.rd_T130
  have h : i.toNat < lp.length := by omega
  rw [List.getD_eq_getElem?_getD, List.getD_eq_getElem?_getD, List.getElem?_map, List.getElem?_eq_getElem h]
  rfl
theorem tdiv_up {n a : Int} (ha : 1 ≤ a) (hn : 0 ≤ n) : Int.tdiv (n + a - 1) a * a = upN n a := by
  rw [Int.tdiv_eq_ediv_of_nonneg (by omega)]
  rfl
theorem up_w64 {n a : Int} (ha : 1 ≤ a) (ha8 : a ≤ 8) (hn : 0 ≤ n) (hm : n ≤ 4294967296) : wrap64 (wrap64 (Int.tdiv (wrap64 (wrap64 (n + a) - 1)) a) * a) = upN n a := by
  have hu := upN_bd (n := n) ha
  have he := tdiv_up ha hn
  have h0 : 0 ≤ Int.tdiv (n + a - 1) a := Int.tdiv_nonneg (by omega) (by omega)
  have h1 : Int.tdiv (n + a - 1) a ≤ n + a - 1 := by rw [Int.tdiv_eq_ediv_of_nonneg (by omega)]; exact Int.ediv_le_self _ (by omega)
  rw [w64_in (x := n + a) (by omega) (by omega), w64_in (x := n + a - 1) (by omega) (by omega), w64_in (x := Int.tdiv (n + a - 1) a) (by omega) (by omega), he, w64_in (by omega) (by omega)]

theorem lay_l {lp : List Lie} (hok : ∀ x ∈ lp, LieOk x) {F : List Int} (h16 : F.length ≤ 16) (hF : ∀ f ∈ F, 0 ≤ f ∧ f < lp.length) (K E N : Int) : ∀ (m j : Nat), F.length - j = m → j ≤ F.length →
    Ev (fun n => gantryref7_lay.l0 n (lp.map (·.f0)) (lp.map (·.f1)) (foldL lp (F.take j)).f0 (foldL lp (F.take j)).f1 j K E N F) ((structL lp F).f0, (structL lp F).f1) := by
  have hy : ∀ j, YOk (F.take j).length (foldL lp (F.take j)) := fun j => foldL_ok _ hok _ (fun f hf => hF f (List.mem_of_mem_take hf))
  intro m
  induction m with
  | zero =>
    intro j hm hj
    obtain rfl : j = F.length := by omega
    have h1 := hy F.length
    have h2 := h1.align
    have h3 := h1.size
    rw [List.take_length] at h2 h3
    refine Ev.unroll ?_
    simp only [gantryref7_lay.l0]
    rw [List.take_length]
    refine Ev.neg (by omega) (Ev.neg (by omega) ?_)
    rw [up_w64 (by omega) (by omega) (by omega) (by omega)]
    exact Ev.now _
  | succ m ih =>
    intro j hm hj
    have hlt : j < F.length := by omega
    have hfj := hF F[j] (List.getElem_mem hlt)
    have hx := hok _ (rd_mem hfj.1 hfj.2)
    have hs := hx.size
    have ha := hx.align
    have h1 := hy j
    have h2 := h1.size
    have h3 := h1.align
    have hjl : (F.take j).length = j := by rw [List.length_take]; omega
    rw [hjl] at h2
    have hih := ih (j + 1) (by omega) (by omega)
    rw [List.take_succ_eq_append_getElem hlt, foldL_snoc] at hih
    simp only [stepL] at hih
    have hu := upN_bd (n := (foldL lp (F.take j)).f0) (a := (Go.Proofs.Ytekoogedhmhpgaa.rd_T130 lp F[j]).f1) (by omega)
    refine Ev.unroll ?_
    simp only [gantryref7_lay.l0]
    rw [rd_get hlt, rd_map hfj.1 hfj.2, rd_map hfj.1 hfj.2]
    refine Ev.pos (by omega) (Ev.pos (by omega) (Ev.pos hfj.1 (Ev.pos (by simpa using hfj.2) (Ev.neg (by omega) (Ev.pos (by simpa using hfj.2) ?_)))))
    rw [up_w64 (by omega) (by omega) (by omega) (by omega), w64_in (by omega) (by omega), w64_nat (by omega)]
    by_cases hc : (Go.Proofs.Ytekoogedhmhpgaa.rd_T130 lp F[j]).f1 > (foldL lp (F.take j)).f1
    · refine Ev.pos hc ?_
      rw [show max (foldL lp (F.take j)).f1 (Go.Proofs.Ytekoogedhmhpgaa.rd_T130 lp F[j]).f1 = (Go.Proofs.Ytekoogedhmhpgaa.rd_T130 lp F[j]).f1 by omega] at hih
      exact hih
    · refine Ev.neg hc ?_
      rw [show max (foldL lp (F.take j)).f1 (Go.Proofs.Ytekoogedhmhpgaa.rd_T130 lp F[j]).f1 = (foldL lp (F.take j)).f1 by omega] at hih
      exact hih

theorem lay_ev {lp : List Lie} (hok : ∀ x ∈ lp, LieOk x) {K E N n : Int} {F : List Int} (hs : shapedB K E N F lp.length n = true) :
    Ev (fun k => gantryref7_lay.f k K E N F (lp.map (·.f0)) (lp.map (·.f1))) ((oneL lp K E N F).f0, (oneL lp K E N F).f1) := by
  have key : ∀ b : Bool, (b = true ↔ K = 14 ∨ K = 15) → Ev (fun k => gantryref7_lay.j0 k (lp.map (·.f0)) (lp.map (·.f1)) K b K E N F) ((oneL lp K E N F).f0, (oneL lp K E N F).f1) := by
    intro b hb
    refine Ev.unroll ?_
    simp only [gantryref7_lay.j0]
    rcases shape_cases hs with h | ⟨rfl, hE, hN⟩ | ⟨rfl, rfl, rfl, h16, hF⟩ | h
    · refine Ev.pos (hb.2 h) ?_
      rw [show oneL lp K E N F = ⟨16, 8, true, [11, 5], [0, 8], []⟩ from if_pos h]
      exact Ev.now _
    · refine Ev.neg (fun h => by have := hb.1 h; omega) (Ev.pos rfl (Ev.pos hE.1 (Ev.pos (by simpa using hE.2) (Ev.pos (by simpa using hE.2) ?_))))
      rw [rd_map hE.1 hE.2, rd_map hE.1 hE.2]
      have hx := (hok _ (rd_mem hE.1 hE.2)).size
      have h1 : N * (Go.Proofs.Ytekoogedhmhpgaa.rd_T130 lp E).f0 ≤ 65536 * 65536 := Int.le_trans (Int.mul_le_mul_of_nonneg_left hx.2 hN.1) (Int.mul_le_mul_of_nonneg_right hN.2 (by omega))
      have h0 : 0 ≤ N * (Go.Proofs.Ytekoogedhmhpgaa.rd_T130 lp E).f0 := Int.mul_nonneg hN.1 hx.1
      rw [w64_in (by omega) (by omega)]
      exact Ev.now _
    · refine Ev.neg (fun h => by have := hb.1 h; omega) (Ev.neg (by omega) (Ev.pos rfl ?_))
      exact lay_l hok h16 hF 13 0 0 _ 0 rfl (Nat.zero_le _)
    · refine Ev.neg (fun h' => by have := hb.1 h'; omega) (Ev.neg (by omega) (Ev.neg (by omega) ?_))
      rw [show oneL lp K E N F = ⟨nbytes K, nbytes K, true, [K], [0], []⟩ by unfold oneL; rw [if_neg (by omega), if_neg (by omega), if_neg (by omega)]]
      exact Ev.bind (width_ev K h) (Ev.now _)
  simp only [gantryref7_lay.f]
  by_cases h14 : K = 14
  · exact Ev.pos h14 (key _ (by simp [h14]))
  · exact Ev.neg h14 (key _ (by simp [h14]))

theorem laid_l {t : List S124} {ls : List Lie} (h : Lies t ls) {k : Nat} (hk : k ≤ t.length) : ∀ (m j : Nat), k - j = m → j ≤ k →
    Ev (fun n => gantryref7_laid.l0 n (t.take k) ((ls.take j).map (·.f0)) ((ls.take j).map (·.f1)) j) ((ls.take k).map (·.f0), (ls.take k).map (·.f1)) := by
  have hl := h.len
  obtain ⟨hg, _, h64, hs, ha⟩ := lies_at h.eq
  intro m
  induction m with
  | zero =>
    intro j hm hj
    obtain rfl : j = k := by omega
    refine Ev.unroll ?_
    simp only [gantryref7_laid.l0]
    exact Ev.neg (by simp; omega) (Ev.now _)
  | succ m ih =>
    intro j hm hj
    have hlt : j < t.length := by omega
    have hjl : (ls.take j).length = j := by rw [List.length_take]; omega
    have hih := ih (j + 1) (by omega) (by omega)
    have hsn : ls.take (j + 1) = ls.take j ++ [Go.Proofs.Ytekoogedhmhpgaa.rd_T130 ls j] := by
      rw [List.take_succ_eq_append_getElem (by omega)]
      unfold Go.Proofs.Ytekoogedhmhpgaa.rd_T130
      rw [List.getD_eq_getElem?_getD, Int.toNat_natCast, List.getElem?_eq_getElem (by omega)]
      rfl
    have hrd : rd_T124 (t.take k) j = rd_T124 t j := by
      unfold rd_T124
      rw [List.getD_eq_getElem?_getD, List.getD_eq_getElem?_getD, Int.toNat_natCast, List.getElem?_take_of_lt (by omega)]
    rw [hsn, List.map_append, List.map_append] at hih
    refine Ev.unroll ?_
    simp only [gantryref7_laid.l0]
    refine Ev.pos (by simp; omega) (Ev.pos (by omega) ?_)
    rw [hrd]
    have hsh := shape_at hs hlt
    refine Ev.bind (lay_ev (fun x hx => (hg x (List.mem_of_mem_take hx)).ok) (n := t.length) (by rw [hjl]; exact hsh)) ?_
    rw [← ha j hlt]
    refine Ev.pos (by simp; omega) (Ev.pos (by simp; omega) ?_)
    rw [w64_nat (by omega)]
    exact hih
theorem laid_ev {t : List S124} {ls : List Lie} (h : Lies t ls) {k : Nat} (hk : k ≤ t.length) : Ev (fun n => gantryref7_laid.f n (t.take k)) ((ls.take k).map (·.f0), (ls.take k).map (·.f1)) := laid_l h hk _ 0 rfl (Nat.zero_le _)

theorem offset_l {t T : List S124} {ls : List Lie} (h : Lies t ls) {k : Nat} (hk : k < T.length) (hT : T.length ≤ t.length) (hrd : rd_T124 T k = rd_T124 t k) (hK : (rd_T124 t k).f0 = 13) {f : Nat} (hf : f < (rd_T124 t k).f3.length) : ∀ (m j : Nat), f - j = m → j ≤ f →
    Ev (fun n => gantryref7_Offset.l0 n T k f ((ls.take k).map (·.f0)) ((ls.take k).map (·.f1)) (foldL (ls.take k) ((rd_T124 t k).f3.take j)).f0 j) (upN (foldL (ls.take k) ((rd_T124 t k).f3.take f)).f0 (Go.Proofs.Ytekoogedhmhpgaa.rd_T130 ls (rd (rd_T124 t k).f3 f)).f1) := by
  obtain ⟨_, h16, hF⟩ := h.struct (k := k) (by omega) hK
  have hlen := h.len
  have hok : ∀ x ∈ ls.take k, LieOk x := fun x hx => ((lies_at h.eq).1 x (List.mem_of_mem_take hx)).ok
  have hlk : (ls.take k).length = k := by rw [List.length_take]; omega
  generalize hFe : (rd_T124 t k).f3 = F at *
  have hF' : ∀ f ∈ F, 0 ≤ f ∧ f < (ls.take k).length := fun f hf => by rw [hlk]; exact hF f hf
  have hy : ∀ j, YOk (F.take j).length (foldL (ls.take k) (F.take j)) := fun j => foldL_ok _ hok _ (fun f hf => hF' f (List.mem_of_mem_take hf))
  intro m
  induction m with
  | zero =>
    intro j hm hj
    obtain rfl : j = f := by omega
    have hfj := hF F[j] (List.getElem_mem hf)
    have hx := hok _ (rd_mem (hF' F[j] (List.getElem_mem hf)).1 (hF' F[j] (List.getElem_mem hf)).2)
    have ha := hx.align
    have h2 := (hy j).size
    rw [List.length_take] at h2
    refine Ev.unroll ?_
    simp only [gantryref7_Offset.l0]
    rw [hrd, hFe, rd_get hf, rd_map (hF' F[j] (List.getElem_mem hf)).1 (hF' F[j] (List.getElem_mem hf)).2, rd_map (hF' F[j] (List.getElem_mem hf)).1 (hF' F[j] (List.getElem_mem hf)).2]
    refine Ev.pos (by omega) (Ev.pos (by omega) (Ev.pos (by omega) (Ev.pos (by omega) (Ev.pos (by omega) (Ev.pos hfj.1 (Ev.pos (by simp; omega) (Ev.neg (by omega) (Ev.neg (by omega) ?_))))))))
    rw [up_w64 (by omega) (by omega) (by omega) (by omega), w64_nat (by omega), show Go.Proofs.Ytekoogedhmhpgaa.rd_T130 (ls.take k) F[j] = Go.Proofs.Ytekoogedhmhpgaa.rd_T130 ls F[j] from rdl_take hfj.1 hfj.2]
    refine Ev.unroll ?_
    simp only [gantryref7_Offset.l0]
    exact Ev.neg (by omega) (Ev.now _)
  | succ m ih =>
    intro j hm hj
    have hlt : j < F.length := by omega
    have hfj := hF F[j] (List.getElem_mem hlt)
    have hx := hok _ (rd_mem (hF' F[j] (List.getElem_mem hlt)).1 (hF' F[j] (List.getElem_mem hlt)).2)
    have ha := hx.align
    have hs := hx.size
    have h2 := (hy j).size
    rw [List.length_take] at h2
    have hih := ih (j + 1) (by omega) (by omega)
    rw [List.take_succ_eq_append_getElem hlt, foldL_snoc] at hih
    simp only [stepL] at hih
    have hu := upN_bd (n := (foldL (ls.take k) (F.take j)).f0) (a := (Go.Proofs.Ytekoogedhmhpgaa.rd_T130 (ls.take k) F[j]).f1) (by omega)
    refine Ev.unroll ?_
    simp only [gantryref7_Offset.l0]
    rw [hrd, hFe, rd_get hlt, rd_map (hF' F[j] (List.getElem_mem hlt)).1 (hF' F[j] (List.getElem_mem hlt)).2, rd_map (hF' F[j] (List.getElem_mem hlt)).1 (hF' F[j] (List.getElem_mem hlt)).2]
    refine Ev.pos (by omega) (Ev.pos (by omega) (Ev.pos (by omega) (Ev.pos (by omega) (Ev.pos (by omega) (Ev.pos hfj.1 (Ev.pos (by simp; omega) (Ev.neg (by omega) (Ev.pos (by omega) (Ev.pos (by simp; omega) ?_)))))))))
    rw [up_w64 (by omega) (by omega) (by omega) (by omega), w64_in (by omega) (by omega), w64_nat (by omega)]
    exact hih
theorem offset_ev {t T : List S124} {ls : List Lie} (h : Lies t ls) {k : Nat} (hk : k < T.length) (hT : T.length ≤ t.length) (hrd : rd_T124 T k = rd_T124 t k) (htk : T.take k = t.take k) (hK : (rd_T124 t k).f0 = 13) {f : Nat} (hf : f < (rd_T124 t k).f3.length) :
    Ev (fun n => gantryref7_Offset.f n T k f) (upN (foldL (ls.take k) ((rd_T124 t k).f3.take f)).f0 (Go.Proofs.Ytekoogedhmhpgaa.rd_T130 ls (rd (rd_T124 t k).f3 f)).f1) := by
  simp only [gantryref7_Offset.f]
  refine Ev.pos (by omega) (Ev.pos (by omega) ?_)
  rw [Int.toNat_natCast, htk]
  refine Ev.bind (laid_ev h (by omega)) ?_
  have := offset_l h hk hT hrd hK hf f 0 (by omega) (Nat.zero_le _)
  simpa [foldL] using this
end Go.Proofs.Ytekoogedhmhpgaa

