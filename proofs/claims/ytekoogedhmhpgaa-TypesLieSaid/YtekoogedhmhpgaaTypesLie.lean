/- Plain: the law TypesLie holds of what the program computes. -/
import Derived.Test.YtekoogedhmhpgaaLieA
import Derived.Test.YtekoogedhmhpgaaEvA
import Derived.Test.YtekoogedhmhpgaaQx6
namespace Go.Proofs.Ytekoogedhmhpgaa
open Go.RowKit Go.Proofs.YtekoogedhmhpgaaW.PrintWords
open Q

/-- A table that can be. -/
def okT (t : List S124) : Prop := t.length ≤ 2932031007317 ∧ ∀ x ∈ t, x.f3.length ≤ 17592186043904
theorem okT.lenB {t : List S124} (h : okT t) : lenB t = true := List.all_eq_true.2 fun x hx => by have := h.2 x hx; simp; omega
theorem rd_lt {t : List S124} {i : Nat} (h : i < t.length) : rd_T124 t i = t[i] := by
  unfold rd_T124
  rw [List.getD_eq_getElem?_getD, Int.toNat_natCast, List.getElem?_eq_getElem h]
  rfl

theorem heavy_l (t : List S124) (ht : okT t) : ∀ (m i : Nat) (n : Int), t.length - i = m → ∃ b, Ev (fun k => gantrylaw7_Heavy.l0 k t n i) b := by
  intro m
  induction m with
  | zero =>
    intro i n hm
    refine ⟨decide (n > 2000), Ev.unroll ?_⟩
    simp only [gantrylaw7_Heavy.l0]
    exact Ev.neg (by omega) (Ev.now _)
  | succ m ih =>
    intro i n hm
    by_cases hn : n < 2000
    · obtain ⟨b, hb⟩ := ih (i + 1) (wrap64 (n + ((rd_T124 t i).f3.length : Int))) (by omega)
      refine ⟨b, Ev.unroll ?_⟩
      simp only [gantrylaw7_Heavy.l0]
      refine Ev.pos (by omega) (Ev.pos hn (Ev.pos (by omega) ?_))
      rw [w64_nat (by have := ht.1; omega)]
      exact hb
    · refine ⟨decide (n > 2000), Ev.unroll ?_⟩
      simp only [gantrylaw7_Heavy.l0]
      exact Ev.pos (by omega) (Ev.neg hn (Ev.now _))
theorem heavy_ev (t : List S124) (ht : okT t) : ∃ b, Ev (fun k => gantrylaw7_Heavy.f k t) b := heavy_l t ht _ 0 _ rfl

theorem copyTypes_l (t : List S124) (ht : okT t) : ∀ (m i : Nat) (acc : List S124), t.length - i = m → acc.length = i → i ≤ t.length → Ev (fun k => gantryref0_CopyTypes.l0 k t acc i) (acc ++ t.drop i) := by
  intro m
  induction m with
  | zero =>
    intro i acc hm ha hi
    refine Ev.unroll ?_
    simp only [gantryref0_CopyTypes.l0]
    refine Ev.neg (by omega) ?_
    rw [List.drop_eq_nil_of_le (by omega), List.append_nil]
    exact Ev.now _
  | succ m ih =>
    intro i acc hm ha hi
    have hlt : i < t.length := by omega
    refine Ev.unroll ?_
    simp only [gantryref0_CopyTypes.l0]
    refine Ev.pos (by omega) (Ev.pos (by omega) ?_)
    have hf := ht.2 t[i] (List.getElem_mem hlt)
    have hc : gantryref0_CopyType.f ((rd_T124 t i).f0) ((rd_T124 t i).f1) ((rd_T124 t i).f2) ((rd_T124 t i).f3) = some (t[i].f0, t[i].f1, t[i].f2, t[i].f3) := by
      rw [rd_lt hlt]
      unfold gantryref0_CopyType.f gantryref0_CopyNumbers.f
      rw [if_pos (by simp; omega)]
      rfl
    refine Ev.bind_const hc ?_
    refine Ev.pos (by have := ht.1; omega) ?_
    rw [w64_nat (by have := ht.1; omega)]
    have := ih (i + 1) (acc ++ [t[i]]) (by omega) (by simp [ha]) (by omega)
    rw [List.append_assoc, List.singleton_append, ← List.drop_eq_getElem_cons hlt] at this
    exact this
theorem copyTypes_ev (t : List S124) (ht : okT t) : Ev (fun k => gantryref0_CopyTypes.f k t) t := by
  have := copyTypes_l t ht _ 0 [] rfl rfl (Nat.zero_le _)
  unfold gantryref0_CopyTypes.f
  simpa using this

theorem width_ev (K : Int) (h : 1 ≤ K ∧ K ≤ 11) : Ev (fun k => gantryref1_Bytes.f k K) (nbytes K) := by
  have : K = 1 ∨ K = 2 ∨ K = 3 ∨ K = 4 ∨ K = 5 ∨ K = 6 ∨ K = 7 ∨ K = 8 ∨ K = 9 ∨ K = 10 ∨ K = 11 := by omega
  have key : ∀ K, gantryref1_Bytes.f 5 K = some (nbytes K) → Ev (fun k => gantryref1_Bytes.f k K) (nbytes K) := fun K h => Ev.of (gantryref1_Bytes.mono K) h
  rcases this with rfl | rfl | rfl | rfl | rfl | rfl | rfl | rfl | rfl | rfl | rfl <;> exact key _ (by decide +kernel)

theorem rdl_take {ls : List S130} {k : Nat} {i : Int} (h0 : 0 ≤ i) (h1 : i < k) : Go.Proofs.Ytekoogedhmhpgaa.rd_T130 (ls.take k) i = Go.Proofs.Ytekoogedhmhpgaa.rd_T130 ls i := by
  unfold Go.Proofs.Ytekoogedhmhpgaa.rd_T130
  rw [List.getD_eq_getElem?_getD, List.getD_eq_getElem?_getD, List.getElem?_take_of_lt (by omega)]
theorem rd_get {F : List Int} {j : Nat} (h : j < F.length) : rd F (j : Int) = F[j] := by
  unfold rd
  rw [List.getD_eq_getElem?_getD, Int.toNat_natCast, List.getElem?_eq_getElem h]
  rfl
theorem fold_f5 (lp : List S130) (F : List Int) : ∀ m : Nat, m ≤ F.length → (foldL lp (F.take m)).f5.length = m ∧ ∀ j : Nat, j < m → rd (foldL lp (F.take m)).f5 j = upN (foldL lp (F.take j)).f0 (Go.Proofs.Ytekoogedhmhpgaa.rd_T130 lp (rd F j)).f1 := by
  intro m
  induction m with
  | zero => intro _; exact ⟨by simp [foldL], fun j hj => by omega⟩
  | succ m ih =>
    intro hm
    obtain ⟨h1, h2⟩ := ih (by omega)
    rw [List.take_succ_eq_append_getElem (by omega), foldL_snoc]
    refine ⟨by simp [stepL, h1], fun j hj => ?_⟩
    simp only [stepL]
    by_cases hjm : j < m
    · rw [← h2 j hjm]
      unfold rd
      rw [List.getD_eq_getElem?_getD, List.getD_eq_getElem?_getD, Int.toNat_natCast, List.getElem?_append_left (by omega)]
    · obtain rfl : j = m := by omega
      rw [rd_get (F := F) (by omega)]
      unfold rd
      rw [List.getD_eq_getElem?_getD, Int.toNat_natCast, List.getElem?_append_right (by omega), h1]
      simp

/-- A table that lies: what its entries are asked tells. -/
structure Lies (t : List S124) (ls : List Go.Proofs.Ytekoogedhmhpgaa.S130) : Prop where
  ok : okT t
  eq : liesR t = (ls, 0)
namespace Lies
variable {t : List S124} {ls : List Go.Proofs.Ytekoogedhmhpgaa.S130} (h : Lies t ls)
include h
theorem len : ls.length = t.length := (lies_at h.eq).2.1
theorem good {i : Int} (h0 : 0 ≤ i) (h1 : i < t.length) : LieGood (Go.Proofs.Ytekoogedhmhpgaa.rd_T130 ls i) := (lies_at h.eq).1 _ (rd_mem h0 (by rw [h.len]; exact h1))
theorem entry {i : Int} (h0 : 0 ≤ i) (h1 : i < t.length) : entryR t i = (Go.Proofs.Ytekoogedhmhpgaa.rd_T130 ls i, 0) := by
  unfold entryR
  rw [h.eq]
  simp only [if_true]
  rw [if_pos ⟨h0, by rw [h.len]; exact h1⟩]
theorem size {i : Int} (h0 : 0 ≤ i) (h1 : i < t.length) : types_Size.f t i = some ((Go.Proofs.Ytekoogedhmhpgaa.rd_T130 ls i).f0, 0) := by
  unfold types_Size.f
  rw [if_pos h.ok.lenB, h.entry h0 h1]
theorem align {i : Int} (h0 : 0 ≤ i) (h1 : i < t.length) : types_Align.f t i = some ((Go.Proofs.Ytekoogedhmhpgaa.rd_T130 ls i).f1, 0) := by
  unfold types_Align.f
  rw [if_pos h.ok.lenB, h.entry h0 h1]
theorem words {i : Int} (h0 : 0 ≤ i) (h1 : i < t.length) : types_Words.f t i = some (if (Go.Proofs.Ytekoogedhmhpgaa.rd_T130 ls i).f2 = true then ((Go.Proofs.Ytekoogedhmhpgaa.rd_T130 ls i).f3, (Go.Proofs.Ytekoogedhmhpgaa.rd_T130 ls i).f4, 0) else ([], [], 70)) := by
  unfold types_Words.f
  rw [if_pos h.ok.lenB, h.entry h0 h1]
  simp only [if_true]
theorem offset {i f : Int} (h0 : 0 ≤ i) (h1 : i < t.length) (h2 : 0 ≤ f) (h3 : f < (Go.Proofs.Ytekoogedhmhpgaa.rd_T130 ls i).f5.length) : types_Offset.f t i f = some (rd (Go.Proofs.Ytekoogedhmhpgaa.rd_T130 ls i).f5 f, 0) := by
  unfold types_Offset.f
  rw [if_pos h.ok.lenB, h.entry h0 h1]
  simp only [if_true]
  rw [if_pos ⟨h2, h3⟩]
theorem struct {k : Nat} (hk : k < t.length) (hK : (rd_T124 t k).f0 = 13) :
    Go.Proofs.Ytekoogedhmhpgaa.rd_T130 ls k = structL (ls.take k) (rd_T124 t k).f3 ∧ (rd_T124 t k).f3.length ≤ 16 ∧ ∀ f ∈ (rd_T124 t k).f3, 0 ≤ f ∧ f < k := by
  obtain ⟨_, _, _, hs, ha⟩ := lies_at h.eq
  have h1 := ha k hk
  have h2 := shape_at hs hk
  rcases shape_cases h2 with h3 | ⟨h3, _⟩ | ⟨_, hE, hN, h16, hF⟩ | h3
  · omega
  · omega
  · rw [hK, hE, hN] at h1
    exact ⟨h1, h16, hF⟩
  · omega
end Lies

theorem fold_mono (lp : List Go.Proofs.Ytekoogedhmhpgaa.S130) (hok : ∀ x ∈ lp, LieOk x) (F : List Int) (hF : ∀ f ∈ F, 0 ≤ f ∧ f < lp.length) : ∀ (j : Nat), j ≤ F.length → (foldL lp (F.take j)).f0 ≤ (foldL lp F).f0 := by
  have key : ∀ (m j : Nat), F.length - j = m → j ≤ F.length → (foldL lp (F.take j)).f0 ≤ (foldL lp F).f0 := by
    intro m
    induction m with
    | zero => intro j hm hj; obtain rfl : j = F.length := by omega
              rw [List.take_length]; exact Int.le_refl _
    | succ m ih =>
      intro j hm hj
      have hlt : j < F.length := by omega
      have := ih (j + 1) (by omega) (by omega)
      rw [List.take_succ_eq_append_getElem hlt, foldL_snoc] at this
      have hx := hok _ (rd_mem (hF F[j] (List.getElem_mem hlt)).1 (hF F[j] (List.getElem_mem hlt)).2)
      have hu := upN_bd (n := (foldL lp (F.take j)).f0) (a := (Go.Proofs.Ytekoogedhmhpgaa.rd_T130 lp F[j]).f1) (by have := hx.align; omega)
      have hs := hx.size
      simp only [stepL] at this
      omega
  exact fun j hj => key _ j rfl hj
theorem fold_al (lp : List Go.Proofs.Ytekoogedhmhpgaa.S130) (hok : ∀ x ∈ lp, LieOk x) (F : List Int) (hF : ∀ f ∈ F, 0 ≤ f ∧ f < lp.length) (j : Nat) (hj : j < F.length) {a : Int} (ha : a = (Go.Proofs.Ytekoogedhmhpgaa.rd_T130 lp F[j]).f1) : (foldL lp F).f1 % a = 0 := by
  subst ha
  have hy : ∀ m, YOk (F.take m).length (foldL lp (F.take m)) := fun m => foldL_ok _ hok _ (fun f hf => hF f (List.mem_of_mem_take hf))
  have key : ∀ d, j + 1 + d ≤ F.length → (foldL lp (F.take (j + 1 + d))).f1 % (Go.Proofs.Ytekoogedhmhpgaa.rd_T130 lp F[j]).f1 = 0 := by
    intro d
    induction d with
    | zero =>
      intro _
      have hx := hok _ (rd_mem (hF F[j] (List.getElem_mem hj)).1 (hF F[j] (List.getElem_mem hj)).2)
      rw [Nat.add_zero, List.take_succ_eq_append_getElem hj, foldL_snoc]
      exact (al_max (hy j).align hx.align).2
    | succ d ih =>
      intro hd
      have hlt : j + 1 + d < F.length := by omega
      have hx := hok _ (rd_mem (hF F[j + 1 + d] (List.getElem_mem hlt)).1 (hF F[j + 1 + d] (List.getElem_mem hlt)).2)
      rw [← Nat.add_assoc, List.take_succ_eq_append_getElem hlt, foldL_snoc]
      exact mod_mod (al_max (hy (j + 1 + d)).align hx.align).1 (ih (by omega))
  have := key (F.length - (j + 1)) (by omega)
  rwa [show j + 1 + (F.length - (j + 1)) = F.length by omega, List.take_length] at this

theorem fields_l {t : List S124} {ls : List Go.Proofs.Ytekoogedhmhpgaa.S130} (h : Lies t ls) {k : Nat} (hk : k < t.length) (hK : (rd_T124 t k).f0 = 13) : ∀ (m j : Nat), (rd_T124 t k).f3.length - j = m → j ≤ (rd_T124 t k).f3.length →
    Ev (fun n => gantrylaw7_fields.l0 n t k (Go.Proofs.Ytekoogedhmhpgaa.rd_T130 ls k).f0 (Go.Proofs.Ytekoogedhmhpgaa.rd_T130 ls k).f1 (foldL (ls.take k) ((rd_T124 t k).f3.take j)).f0 j) true := by
  obtain ⟨hr, h16, hF⟩ := h.struct hk hK
  have hlen := h.len
  have hgood : ∀ x ∈ ls.take k, LieOk x := fun x hx => ((lies_at h.eq).1 x (List.mem_of_mem_take hx)).ok
  have hlk : (ls.take k).length = k := by rw [List.length_take]; omega
  generalize hFe : (rd_T124 t k).f3 = F at *
  have hy : ∀ j, YOk (F.take j).length (foldL (ls.take k) (F.take j)) := fun j => foldL_ok _ hgood _ (fun f hf => by rw [hlk]; exact hF f (List.mem_of_mem_take hf))
  have hf5 := fold_f5 (ls.take k) F F.length (Nat.le_refl _)
  rw [List.take_length] at hf5
  have hg := h.good (i := k) (by omega) (by omega)
  intro m
  induction m with
  | zero =>
    intro j hm hj
    obtain rfl : j = F.length := by omega
    refine Ev.unroll ?_
    simp only [gantrylaw7_fields.l0]
    refine Ev.pos (by omega) (Ev.pos (by omega) (Ev.neg (by rw [hFe]; omega) ?_))
    have hyl := hy F.length
    rw [List.take_length] at hyl ⊢
    have hu := upN_bd (n := (foldL (ls.take k) F).f0) (a := (foldL (ls.take k) F).f1) (by have := hyl.align; omega)
    have hs := hyl.size
    have hsz := hg.ok.size
    refine Ev.const (congrArg some (decide_eq_true ?_))
    rw [hr] at hsz ⊢
    simp only [structL] at hsz ⊢
    rw [w64_in (by omega) (by omega)]
    omega
  | succ m ih =>
    intro j hm hj
    have hlt : j < F.length := by omega
    have hfj := hF F[j] (List.getElem_mem hlt)
    have hrdj := rd_get hlt
    have hyj := hy j
    have hyl := hy F.length
    have hx := h.good (i := F[j]) hfj.1 (by omega)
    have hmm : (foldL (ls.take k) F).f1 % (Go.Proofs.Ytekoogedhmhpgaa.rd_T130 ls F[j]).f1 = 0 := fold_al _ hgood F (fun f hf => by rw [hlk]; exact hF f hf) j hlt (by rw [rdl_take hfj.1 hfj.2])
    have hmono : (foldL (ls.take k) (F.take (j + 1))).f0 ≤ (foldL (ls.take k) F).f0 := fold_mono _ hgood F (fun f hf => by rw [hlk]; exact hF f hf) (j + 1) (by omega)
    rw [List.take_succ_eq_append_getElem hlt, foldL_snoc] at hmono
    have hih := ih (j + 1) (by omega) (by omega)
    rw [List.take_succ_eq_append_getElem hlt, foldL_snoc] at hih
    simp only [stepL] at hih hmono
    rw [rdl_take hfj.1 hfj.2] at hih hmono
    have hoff := h.offset (i := k) (f := j) (by omega) (by omega) (by omega) (by rw [hr]; simp only [structL]; omega)
    have hval : rd (Go.Proofs.Ytekoogedhmhpgaa.rd_T130 ls k).f5 j = upN (foldL (ls.take k) (F.take j)).f0 (Go.Proofs.Ytekoogedhmhpgaa.rd_T130 ls F[j]).f1 := by
      rw [hr]
      simp only [structL]
      rw [hf5.2 j hlt, hrdj, rdl_take hfj.1 hfj.2]
    rw [hval] at hoff
    have hu := upN_bd (n := (foldL (ls.take k) (F.take j)).f0) (a := (Go.Proofs.Ytekoogedhmhpgaa.rd_T130 ls F[j]).f1) (by have := hx.ok.align; omega)
    have hum := upN_mod (foldL (ls.take k) (F.take j)).f0 (Go.Proofs.Ytekoogedhmhpgaa.rd_T130 ls F[j]).f1
    have hu2 := upN_bd (n := (foldL (ls.take k) F).f0) (a := (foldL (ls.take k) F).f1) (by rw [List.take_length] at hyl; have := hyl.align; omega)
    have hs1 := hyj.size
    have hjl : (F.take j).length = j := by rw [List.length_take]; omega
    rw [hjl] at hs1
    have hs2 := hx.ok.size
    have hs3 := hx.ok.align
    refine Ev.unroll ?_
    simp only [gantrylaw7_fields.l0]
    refine Ev.pos (by omega) (Ev.pos (by omega) (Ev.pos (by rw [hFe]; omega) ?_))
    refine Ev.bind_const hoff (Ev.pos (by omega) ?_)
    rw [hFe, hrdj]
    refine Ev.bind_const (h.size hfj.1 (by omega)) (Ev.bind_const (h.align hfj.1 (by omega)) (Ev.bind_const (a := 0) rfl (Ev.pos rfl ?_)))
    dsimp only
    refine Ev.neg (by omega) (Ev.neg (by omega) (Ev.neg (by rw [w64_in (by omega) (by omega)]; omega) (Ev.neg (by omega) ?_)))
    rw [Int.tmod_eq_emod_of_nonneg (by omega), Int.tmod_eq_emod_of_nonneg (by rw [hr]; have := hyl.align; rw [List.take_length] at this; simp only [structL]; omega)]
    refine Ev.pos hum (Ev.pos ?_ (Ev.neg ?_ ?_))
    · rw [hr]; simp only [structL]; exact hmm
    · rw [w64_in (by omega) (by omega), hr]; simp only [structL]; omega
    · rw [w64_in (by omega) (by omega), w64_nat (by omega)]
      exact hih

theorem fields_ev {t : List S124} {ls : List Go.Proofs.Ytekoogedhmhpgaa.S130} (h : Lies t ls) {k : Nat} (hk : k < t.length) : Ev (fun n => gantrylaw7_fields.f n t k (Go.Proofs.Ytekoogedhmhpgaa.rd_T130 ls k).f0 (Go.Proofs.Ytekoogedhmhpgaa.rd_T130 ls k).f1) true := by
  simp only [gantrylaw7_fields.f]
  refine Ev.pos (by omega) (Ev.pos (by omega) ?_)
  by_cases hK : (rd_T124 t k).f0 = 13
  · exact Ev.pos hK (fields_l h hk hK _ 0 rfl (Nat.zero_le _))
  · exact Ev.neg hK (Ev.now _)

theorem wordsOk_len {a n : Int} : ∀ {ks os : List Int} {e : Int}, wordsOk a n e ks os → ks.length = os.length
  | [], [], _, _ => rfl
  | _ :: _, _ :: _, _, h => by simp [wordsOk_len h.2.2.2.2.2]
  | [], _ :: _, _, h => by simp [wordsOk] at h
  | _ :: _, [], _, h => by simp [wordsOk] at h
theorem nbytes_word {K : Int} (h : 1 ≤ nbytes K) : 1 ≤ K ∧ K ≤ 11 := by
  unfold nbytes at h
  by_cases hk : 1 ≤ K ∧ K ≤ 11
  · exact hk
  · rw [if_neg (by omega), if_neg (by omega), if_neg (by omega), if_neg (by omega), if_neg (by omega), if_neg (by omega), if_neg (by omega), if_neg (by omega), if_neg (by omega), if_neg (by omega), if_neg (by omega)] at h
    omega
theorem words_l {ks os : List Int} (n a : Int) (hn : n ≤ 65536) (hk : ks.length ≤ 16) (hl : ks.length = os.length) : ∀ (m j : Nat) (e : Int), ks.length - j = m → j ≤ ks.length → 0 ≤ e → wordsOk a n e (ks.drop j) (os.drop j) → Ev (fun k => gantrylaw7_words.l0 k n ks os e j) true := by
  intro m
  induction m with
  | zero =>
    intro j e hm hj he hw
    refine Ev.unroll ?_
    simp only [gantrylaw7_words.l0]
    exact Ev.neg (by omega) (Ev.now _)
  | succ m ih =>
    intro j e hm hj he hw
    have hlt : j < ks.length := by omega
    have hlo : j < os.length := by omega
    rw [List.drop_eq_getElem_cons hlt, List.drop_eq_getElem_cons hlo] at hw
    obtain ⟨h1, h2, h3, h4, h5, h6⟩ := hw
    refine Ev.unroll ?_
    simp only [gantrylaw7_words.l0]
    refine Ev.pos (by omega) (Ev.pos (by omega) ?_)
    rw [rd_get hlt, rd_get hlo]
    refine Ev.bind (width_ev _ (nbytes_word h1)) ?_
    have hb := nbytes_of (nbytes_word h1)
    refine Ev.neg (by omega) (Ev.pos (by omega) (Ev.neg (by omega) (Ev.neg (by omega) (Ev.pos ?_ (Ev.neg ?_ ?_)))))
    · rw [Int.tmod_eq_emod_of_nonneg (by omega)]; exact h4
    · rw [w64_in (by omega) (by omega)]; omega
    · rw [w64_in (by omega) (by omega), w64_nat (by omega)]
      exact ih (j + 1) _ (by omega) (by omega) (by omega) h6
theorem words_ev {t : List S124} {ls : List Go.Proofs.Ytekoogedhmhpgaa.S130} (h : Lies t ls) {k : Nat} (hk : k < t.length) : Ev (fun n => gantrylaw7_words.f n t k (Go.Proofs.Ytekoogedhmhpgaa.rd_T130 ls k).f0) true := by
  simp only [gantrylaw7_words.f]
  have hg := h.good (i := k) (by omega) (by omega)
  refine Ev.bind_const (h.words (by omega) (by omega)) ?_
  by_cases h2 : (Go.Proofs.Ytekoogedhmhpgaa.rd_T130 ls k).f2 = true
  · rw [if_pos h2]
    refine Ev.bind_const (a := 0) rfl (Ev.pos rfl (Ev.pos ?_ ?_))
    · have := hg.ok.len; simp only; omega
    · exact words_l _ _ hg.ok.size.2 hg.ok.kinds hg.ok.len _ 0 0 rfl (Nat.zero_le _) (Int.le_refl _) (hg.words h2)
  · rw [if_neg h2]
    exact Ev.bind_const (a := 70) rfl (Ev.neg (by decide) (Ev.now _))

theorem wakes7_f : gantrylaw7_wakes.f = some true := by decide +kernel

theorem typesLie_l (L : List S57) (hl : L.length ≤ 140737488351232) (hL : ∀ x ∈ L, okT x.f0) : ∀ (m i : Nat), L.length - i = m → Ev (fun k => gantrylaw7_TypesLie.l0 k L i) true := by
  intro m
  induction m with
  | zero =>
    intro i hm
    refine Ev.unroll ?_
    simp only [gantrylaw7_TypesLie.l0]
    refine Ev.neg (by omega) (Ev.unroll ?_)
    simp only [gantrylaw7_TypesLie.j1]
    exact Ev.neg (by simp) (Ev.bind_const wakes7_f (Ev.now _))
  | succ m ih =>
    intro i hm
    have hlt : i < L.length := by omega
    have hw : wrap64 ((i : Int) + 1) = ((i + 1 : Nat) : Int) := w64_nat (by omega)
    have ihi := ih (i + 1) (by omega)
    refine Ev.unroll ?_
    simp only [gantrylaw7_TypesLie.l0]
    refine Ev.pos (by omega) (Ev.unroll ?_)
    simp only [gantrylaw7_TypesLie.j1]
    by_cases h10 : (i : Int) < 10
    · refine Ev.pos (by simpa using h10) (Ev.pos (by omega) (Ev.pos (by omega) ?_))
      have hr : rd_T57 L i ∈ L := by
        unfold rd_T57
        rw [List.getD_eq_getElem?_getD, Int.toNat_natCast, List.getElem?_eq_getElem hlt]
        exact List.getElem_mem _
      have ht := hL _ hr
      generalize (rd_T57 L i).f0 = t at *
      obtain ⟨b, hb⟩ := heavy_ev t ht
      refine Ev.bind hb ?_
      cases b with
      | true => exact Ev.pos rfl (Ev.now _)
      | false =>
        refine Ev.neg (by simp) (Ev.bind (copyTypes_ev t ht) ?_)
        refine Ev.bind_const (show types_Check.f t = some (liesR t).2 from if_pos ht.lenB) (Ev.bind_const (a := (liesR t).2) rfl ?_)
        by_cases hc : (liesR t).2 = 0
        · refine Ev.pos hc ?_
          have hls : Lies t (liesR t).1 := ⟨ht, by rw [← hc]⟩
          generalize (liesR t).1 = ls at hls
          have h64 := (lies_at hls.eq).2.2.1
          have inner : ∀ (m k : Nat), t.length - k = m → Ev (fun n => gantrylaw7_TypesLie.l1 n L i t k) true := by
            intro m
            induction m with
            | zero =>
              intro k hm
              refine Ev.unroll ?_
              simp only [gantrylaw7_TypesLie.l1]
              refine Ev.neg (by omega) ?_
              rw [hw]
              exact ihi
            | succ m ihk =>
              intro k hm
              have hk : k < t.length := by omega
              have hg := hls.good (i := k) (by omega) (by omega)
              have ha := hg.ok.align
              refine Ev.unroll ?_
              simp only [gantrylaw7_TypesLie.l1]
              refine Ev.pos (by omega) (Ev.bind_const (hls.size (by omega) (by omega)) (Ev.bind_const (hls.align (by omega) (by omega)) ?_))
              dsimp only
              refine Ev.neg (by omega) (Ev.neg (by omega) (Ev.pos ?_ ?_))
              · rw [Int.tmod_eq_emod_of_nonneg hg.ok.size.1]; exact hg.mult
              · refine Ev.bind (fields_ev hls hk) (Ev.pos rfl (Ev.bind (words_ev hls hk) (Ev.pos rfl ?_)))
                rw [w64_nat (by omega)]
                exact ihk (k + 1) (by omega)
          exact inner _ 0 rfl
        · refine Ev.neg hc ?_
          rw [hw]
          exact ihi
    · refine Ev.neg (by simpa using h10) (Ev.bind_const wakes7_f (Ev.now _))
theorem typesLie_pure (L : List S57) (hl : L.length ≤ 140737488351232) (hL : ∀ x ∈ L, okT x.f0) : ∃ k, gantrylaw7_TypesLie.f k L = some true :=
  (typesLie_l L hl hL _ 0 rfl).rounds
end Go.Proofs.Ytekoogedhmhpgaa
