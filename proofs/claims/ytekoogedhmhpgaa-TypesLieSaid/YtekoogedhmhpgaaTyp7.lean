/- The contract of types.one at any entry that is shaped. -/
import Derived.Test.YtekoogedhmhpgaaTyp6
namespace Go.Proofs.Ytekoogedhmhpgaa
open Go.RowKit Go.Proofs.YtekoogedhmhpgaaW.PrintWords

/-- How an entry lies, those ahead of it being found. -/
def oneL (ls : List S130) (K E N : Int) (F : List Int) : S130 :=
  if K = 14 ∨ K = 15 then ⟨16, 8, true, [11, 5], [0, 8], []⟩
  else if K = 12 then ⟨N * (rd_T130 ls E).f0, (rd_T130 ls E).f1, false, [], [], []⟩
  else if K = 13 then structL ls F
  else ⟨nbytes K, nbytes K, true, [K], [0], []⟩

theorem entryB_iff {k e : Int} : entryB k e = true ↔ 0 ≤ k ∧ k < e := by simp [entryB]

theorem shape_cases {K E N i n : Int} {F : List Int} (h : shapedB K E N F i n = true) :
    (K = 14 ∨ K = 15) ∨ (K = 12 ∧ (0 ≤ E ∧ E < i) ∧ 0 ≤ N ∧ N ≤ 65536) ∨ (K = 13 ∧ E = 0 ∧ N = 0 ∧ F.length ≤ 16 ∧ ∀ f ∈ F, 0 ≤ f ∧ f < i) ∨ (1 ≤ K ∧ K ≤ 11) := by
  unfold shapedB at h
  split at h
  · omega
  · split at h
    · omega
    · split at h
      · simp only [Bool.and_eq_true, entryB_iff, decide_eq_true_eq] at h
        omega
      · split at h
        · simp only [Bool.and_eq_true, decide_eq_true_eq, List.all_eq_true, entryB_iff] at h
          exact .inr (.inr (.inl ⟨‹K = 13›, h.1.1, h.1.2.1, h.1.2.2, h.2⟩))
        · cases h

theorem one_ok (K E N : Int) (F : List Int) (A : Option Addr) (c lb cap : Nat) (B : Option Addr) (ls : List S130) (n : Int) (w : World) (hb : w.cell? ⟨lb, 0, none⟩ = some (.slice B ls.length cap)) (hl : Kd.C k130 w B ls.length ls) (hA : IntsAt w A F) (hs : shapedB K E N F ls.length n = true) (hok : ∀ x ∈ ls, LieOk x) :
    Calls Try.prog 121 #[.agg #[.int .i64 K, .int .i64 E, .int .i64 N, .slice A F.length c], .func (.func 120) #[] #[.pointer (some ⟨lb, 0, none⟩)]] w fun e w' => (∃ v, e = .returned v ∧ LieVal w' w.heap.size (oneL ls K E N F) v) ∧ Below w.heap.size w w' := by
  rcases shape_cases hs with h | ⟨rfl, hE, hN⟩ | ⟨rfl, rfl, rfl, h16, hF⟩ | h
  · rw [show oneL ls K E N F = ⟨16, 8, true, [11, 5], [0, 8], []⟩ from if_pos h]
    exact one_pair K E N A F.length c _ w h
  · exact one_array E N A F.length c lb cap B ls w hb hl hE.1 hE.2 hN (hok _ (rd_mem hE.1 hE.2)).size
  · exact one_struct F A c lb cap B ls w hb hl hA hF h16 hok
  · rw [show oneL ls K E N F = ⟨nbytes K, nbytes K, true, [K], [0], []⟩ by unfold oneL; rw [if_neg (by omega), if_neg (by omega), if_neg (by omega)]]
    exact one_scalar K E N A F.length c _ w h

theorem foldL_ok (ls : List S130) (hok : ∀ x ∈ ls, LieOk x) (F : List Int) : (∀ f ∈ F, 0 ≤ f ∧ f < ls.length) → YOk F.length (foldL ls F) := by
  have key : ∀ (F : List Int) (k : Nat) (y : S130), YOk k y → (∀ f ∈ F, 0 ≤ f ∧ f < ls.length) → YOk (k + F.length) (F.foldl (fun y f => stepL y (rd_T130 ls f)) y) := by
    intro F
    induction F with
    | nil => intro k y h _; exact h
    | cons f F ih =>
      intro k y h hF
      have hf := hF f (by simp)
      have := ih (k + 1) _ (yOk_step h (hok _ (rd_mem hf.1 hf.2))) (fun g hg => hF g (by simp [hg]))
      rw [List.length_cons, show k + (F.length + 1) = k + 1 + F.length by omega]
      exact this
  intro hF
  have := key F 0 ⟨0, 1, true, [], [], []⟩ ⟨by simp, by simp, rfl, by simp, rfl, by simp⟩ hF
  simpa [foldL] using this

theorem nbytes_of {K : Int} (h : 1 ≤ K ∧ K ≤ 11) : nbytes K = 1 ∨ nbytes K = 2 ∨ nbytes K = 4 ∨ nbytes K = 8 := by
  have : K = 1 ∨ K = 2 ∨ K = 3 ∨ K = 4 ∨ K = 5 ∨ K = 6 ∨ K = 7 ∨ K = 8 ∨ K = 9 ∨ K = 10 ∨ K = 11 := by omega
  rcases this with rfl | rfl | rfl | rfl | rfl | rfl | rfl | rfl | rfl | rfl | rfl <;> decide
/-- Words begin within. -/
def AtIn (x : S130) : Prop := ∀ a ∈ x.f4, a ≤ x.f0

theorem foldL_in (ls : List S130) (hok : ∀ x ∈ ls, LieOk x) (hin : ∀ x ∈ ls, AtIn x) (F : List Int) : (∀ f ∈ F, 0 ≤ f ∧ f < ls.length) → AtIn (foldL ls F) := by
  have key : ∀ (F : List Int) (y : S130), AtIn y → (∀ f ∈ F, 0 ≤ f ∧ f < ls.length) → AtIn (F.foldl (fun y f => stepL y (rd_T130 ls f)) y) := by
    intro F
    induction F with
    | nil => intro y h _; exact h
    | cons f F ih =>
      intro y h hF
      have hf := hF f (by simp)
      refine ih _ ?_ (fun g hg => hF g (by simp [hg]))
      have hx := hok _ (rd_mem hf.1 hf.2)
      have hi := hin _ (rd_mem hf.1 hf.2)
      have hu := upN_bd (n := y.f0) (a := (rd_T130 ls f).f1) (by have := hx.align; omega)
      have hs := hx.size
      intro a ha
      simp only [stepL] at ha ⊢
      split at ha
      · rcases List.mem_append.1 ha with ha | ha
        · have := h a ha; omega
        · obtain ⟨b, hb, rfl⟩ := List.mem_map.1 ha
          have := hi b hb
          omega
      · have := h a ha; omega
  intro hF
  exact key F _ (fun a ha => (by simp at ha)) hF

theorem oneL_ok {ls : List S130} {K E N n : Int} {F : List Int} (hok : ∀ x ∈ ls, LieOk x) (hin : ∀ x ∈ ls, AtIn x) (hs : shapedB K E N F ls.length n = true) (h : (oneL ls K E N F).f0 ≤ 65536) : LieOk (oneL ls K E N F) ∧ AtIn (oneL ls K E N F) := by
  rcases shape_cases hs with h1 | ⟨rfl, hE, hN⟩ | ⟨rfl, rfl, rfl, h16, hF⟩ | h1
  · rw [show oneL ls K E N F = ⟨16, 8, true, [11, 5], [0, 8], []⟩ from if_pos h1]
    refine ⟨⟨by decide, by decide, rfl, by decide, ?_⟩, ?_⟩
    · intro a ha; simp at ha; omega
    · intro a ha; simp at ha; simp; omega
  · have hx := hok _ (rd_mem hE.1 hE.2)
    have he : oneL ls 12 E N F = ⟨N * (rd_T130 ls E).f0, (rd_T130 ls E).f1, false, [], [], []⟩ := rfl
    rw [he] at h ⊢
    refine ⟨⟨⟨Int.mul_nonneg hN.1 hx.size.1, h⟩, hx.align, rfl, by simp, ?_⟩, ?_⟩
    · intro a ha; simp at ha
    · intro a ha; simp at ha
  · have hy := foldL_ok ls hok F hF
    have hi := foldL_in ls hok hin F hF
    have he : oneL ls 13 0 0 F = structL ls F := rfl
    rw [he] at h ⊢
    have hu := upN_bd (n := (foldL ls F).f0) (a := (foldL ls F).f1) (by have := hy.align; omega)
    have h0 := hy.size
    refine ⟨⟨⟨?_, h⟩, hy.align, hy.len, hy.kinds, ?_⟩, ?_⟩
    · simp only [structL]; omega
    · intro a ha
      have h1 := hi a ha
      have h2 := hy.at_ a ha
      simp only [structL] at h
      omega
    · intro a ha
      have h1 := hi a ha
      simp only [structL]
      omega
  · have hn : nbytes K = 1 ∨ nbytes K = 2 ∨ nbytes K = 4 ∨ nbytes K = 8 := nbytes_of h1
    rw [show oneL ls K E N F = ⟨nbytes K, nbytes K, true, [K], [0], []⟩ by unfold oneL; rw [if_neg (by omega), if_neg (by omega), if_neg (by omega)]]
    refine ⟨⟨by simp only; omega, hn, rfl, by simp, ?_⟩, ?_⟩
    · intro a ha; simp at ha; omega
    · intro a ha; simp at ha; simp; omega

end Go.Proofs.Ytekoogedhmhpgaa
