/- Plain: the law TypesLie holds of what the program computes. -/
import Derived.Test.YtekoogedhmhpgaaEvAE3
import Derived.Test.YtekoogedhmhpgaaQx6E3
namespace Go.Proofs.Ytekoogedhmhpgaa
open Go.RowKit Go.Proofs.YtekoogedhmhpgaaW.PrintWords
open Q

/-- A table that can be. -/
def okT (t : List S124) : Prop := t.length ≤ 2932031007317 ∧ ∀ x ∈ t, x.f3.length ≤ 17592186043904
theorem okT.lenB {t : List S124} (h : okT t) : lenB t = true := List.all_eq_true.2 fun x hx => by have := h.2 x hx; simp; omega
theorem rd_lt {t : List S124} {i : Nat} (h : i < t.length) : rd_T124 t i = t[i] := by
  unfold rd_T124
  rw [List.getD_eq_getElem?_getD, Int.toNat_natCast, List.getElem?_eq_getElem h]
  rfl

theorem heavy_l (t : List S124) (ht : okT t) : ∀ (m i : Nat) (n : Int), t.length - i = m → ∃ b, Ev (fun k => gantrylaw7_Heavy.l0 k t n i) b := by
  intro m
  induction m with
  | zero =>
    intro i n hm
    refine ⟨decide (n > 2000), Ev.unroll ?_⟩
    simp only [gantrylaw7_Heavy.l0]
    exact Ev.neg (by omega) (Ev.now _)
  | succ m ih =>
    intro i n hm
    by_cases hn : n < 2000
    · obtain ⟨b, hb⟩ := ih (i + 1) (wrap64 (n + ((rd_T124 t i).f3.length : Int))) (by omega)
      refine ⟨b, Ev.unroll ?_⟩
      simp only [gantrylaw7_Heavy.l0]
      refine Ev.pos (by omega) (Ev.pos hn (Ev.pos (by omega) ?_))
      rw [w64_nat (by have := ht.1; omega)]
      exact hb
    · refine ⟨decide (n > 2000), Ev.unroll ?_⟩
      simp only [gantrylaw7_Heavy.l0]
      exact Ev.pos (by omega) (Ev.neg hn (Ev.now _))
theorem heavy_ev (t : List S124) (ht : okT t) : ∃ b, Ev (fun k => gantrylaw7_Heavy.f k t) b := heavy_l t ht _ 0 _ rfl

theorem copyTypes_l (t : List S124) (ht : okT t) : ∀ (m i : Nat) (acc : List S124), t.length - i = m → acc.length = i → i ≤ t.length → Ev (fun k => gantryref0_CopyTypes.l0 k t acc i) (acc ++ t.drop i) := by
  intro m
  induction m with
  | zero =>
    intro i acc hm ha hi
    refine Ev.unroll ?_
    simp only [gantryref0_CopyTypes.l0]
    refine Ev.neg (by omega) ?_
    rw [List.drop_eq_nil_of_le (by omega), List.append_nil]
    exact Ev.now _
  | succ m ih =>
    intro i acc hm ha hi
    have hlt : i < t.length := by omega
    refine Ev.unroll ?_
    simp only [gantryref0_CopyTypes.l0]
    refine Ev.pos (by omega) (Ev.pos (by omega) ?_)
    have hf := ht.2 t[i] (List.getElem_mem hlt)
    have hc : gantryref0_CopyType.f ((rd_T124 t i).f0) ((rd_T124 t i).f1) ((rd_T124 t i).f2) ((rd_T124 t i).f3) = some (t[i].f0, t[i].f1, t[i].f2, t[i].f3) := by
      rw [rd_lt hlt]
      unfold gantryref0_CopyType.f gantryref0_CopyNumbers.f
      rw [if_pos (by simp; omega)]
      rfl
    refine Ev.bind_const hc ?_
    refine Ev.pos (by have := ht.1; omega) ?_
    rw [w64_nat (by have := ht.1; omega)]
    have := ih (i + 1) (acc ++ [t[i]]) (by omega) (by simp [ha]) (by omega)
    rw [List.append_assoc, List.singleton_append, ← List.drop_eq_getElem_cons hlt] at this
    exact this
theorem copyTypes_ev (t : List S124) (ht : okT t) : Ev (fun k => gantryref0_CopyTypes.f k t) t := by
  have := copyTypes_l t ht _ 0 [] rfl rfl (Nat.zero_le _)
  unfold gantryref0_CopyTypes.f
  simpa using this

theorem width_ev (K : Int) (h : 1 ≤ K ∧ K ≤ 11) : Ev (fun k => gantryref1_Bytes.f k K) (nbytes K) := by
  have : K = 1 ∨ K = 2 ∨ K = 3 ∨ K = 4 ∨ K = 5 ∨ K = 6 ∨ K = 7 ∨ K = 8 ∨ K = 9 ∨ K = 10 ∨ K = 11 := by omega
  have key : ∀ K, gantryref1_Bytes.f 5 K = some (nbytes K) → Ev (fun k => gantryref1_Bytes.f k K) (nbytes K) := fun K h => Ev.of (gantryref1_Bytes.mono K) h
  rcases this with rfl | rfl | rfl | rfl | rfl | rfl | rfl | rfl | rfl | rfl | rfl <;> exact key _ (by decide +kernel)

theorem rdl_take {ls : List S130} {k : Nat} {i : Int} (h0 : 0 ≤ i) (h1 : i < k) : Go.Proofs.Ytekoogedhmhpgaa.rd_T130 (ls.take k) i = Go.Proofs.Ytekoogedhmhpgaa.rd_T130 ls i := by
  unfold Go.Proofs.Ytekoogedhmhpgaa.rd_T130
  rw [List.getD_eq_getElem?_getD, List.getD_eq_getElem?_getD, List.getElem?_take_of_lt (by omega)]
theorem rd_get {F : List Int} {j : Nat} (h : j < F.length) : rd F (j : Int) = F[j] := by
  unfold rd
  rw [List.getD_eq_getElem?_getD, Int.toNat_natCast, List.getElem?_eq_getElem h]
  rfl
/-- A table that lies: what its entries are asked tells. -/
structure Lies (t : List S124) (ls : List Go.Proofs.Ytekoogedhmhpgaa.S130) : Prop where
  ok : okT t
  eq : liesR t = (ls, 0)
namespace Lies
variable {t : List S124} {ls : List Go.Proofs.Ytekoogedhmhpgaa.S130} (h : Lies t ls)
include h
theorem len : ls.length = t.length := (lies_at h.eq).2.1
theorem good {i : Int} (h0 : 0 ≤ i) (h1 : i < t.length) : LieGood (Go.Proofs.Ytekoogedhmhpgaa.rd_T130 ls i) := (lies_at h.eq).1 _ (rd_mem h0 (by rw [h.len]; exact h1))
theorem entry {i : Int} (h0 : 0 ≤ i) (h1 : i < t.length) : entryR t i = (Go.Proofs.Ytekoogedhmhpgaa.rd_T130 ls i, 0) := by
  unfold entryR
  rw [h.eq]
  simp only [if_true]
  rw [if_pos ⟨h0, by rw [h.len]; exact h1⟩]
theorem size {i : Int} (h0 : 0 ≤ i) (h1 : i < t.length) : types_Size.f t i = some ((Go.Proofs.Ytekoogedhmhpgaa.rd_T130 ls i).f0, 0) := by
  unfold types_Size.f
  rw [if_pos h.ok.lenB, h.entry h0 h1]
theorem align {i : Int} (h0 : 0 ≤ i) (h1 : i < t.length) : types_Align.f t i = some ((Go.Proofs.Ytekoogedhmhpgaa.rd_T130 ls i).f1, 0) := by
  unfold types_Align.f
  rw [if_pos h.ok.lenB, h.entry h0 h1]
theorem words {i : Int} (h0 : 0 ≤ i) (h1 : i < t.length) : types_Words.f t i = some (if (Go.Proofs.Ytekoogedhmhpgaa.rd_T130 ls i).f2 = true then ((Go.Proofs.Ytekoogedhmhpgaa.rd_T130 ls i).f3, (Go.Proofs.Ytekoogedhmhpgaa.rd_T130 ls i).f4, 0) else ([], [], 70)) := by
  unfold types_Words.f
  rw [if_pos h.ok.lenB, h.entry h0 h1]
  simp only [if_true]
theorem offset {i f : Int} (h0 : 0 ≤ i) (h1 : i < t.length) (h2 : 0 ≤ f) (h3 : f < (Go.Proofs.Ytekoogedhmhpgaa.rd_T130 ls i).f5.length) : types_Offset.f t i f = some (rd (Go.Proofs.Ytekoogedhmhpgaa.rd_T130 ls i).f5 f, 0) := by
  unfold types_Offset.f
  rw [if_pos h.ok.lenB, h.entry h0 h1]
  simp only [if_true]
  rw [if_pos ⟨h2, h3⟩]
theorem struct {k : Nat} (hk : k < t.length) (hK : (rd_T124 t k).f0 = 13) :
    Go.Proofs.Ytekoogedhmhpgaa.rd_T130 ls k = structL (ls.take k) (rd_T124 t k).f3 ∧ (rd_T124 t k).f3.length ≤ 16 ∧ ∀ f ∈ (rd_T124 t k).f3, 0 ≤ f ∧ f < k := by
  obtain ⟨_, _, _, hs, ha⟩ := lies_at h.eq
  have h1 := ha k hk
  have h2 := shape_at hs hk
  rcases shape_cases h2 with h3 | ⟨h3, _⟩ | ⟨_, hE, hN, h16, hF⟩ | h3
  · omega
  · omega
  · rw [hK, hE, hN] at h1
    exact ⟨h1, h16, hF⟩
  · omega
end Lies

end Go.Proofs.Ytekoogedhmhpgaa

