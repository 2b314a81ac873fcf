/- Plain: how lies lie: sizes are multiples of alignments; words and fields lie one behind the other. Plain: rounds enough: small laws on what comes to an answer at last. -/
import Derived.Test.YtekoogedhmhpgaaQGivenE3
import Derived.Test.YtekoogedhmhpgaaWWords
import Derived.Test.YtekoogedhmhpgaaWNEv
namespace Go.Proofs.Ytekoogedhmhpgaa
open Go.RowKit Go.Proofs.YtekoogedhmhpgaaW.PrintWords

/-- Words one behind the other from e on, within n, aligned; a is a multiple of each alignment. -/
def wordsOk (a n : Int) : Int → List Int → List Int → Prop
  | e, [], [] => e ≤ n
  | e, k :: ks, o :: os => 1 ≤ nbytes k ∧ a % nbytes k = 0 ∧ e ≤ o ∧ o % nbytes k = 0 ∧ o + nbytes k ≤ n ∧ wordsOk a n (o + nbytes k) ks os
  | _, _, _ => False
theorem al_max {a b : Int} (ha : a = 1 ∨ a = 2 ∨ a = 4 ∨ a = 8) (hb : b = 1 ∨ b = 2 ∨ b = 4 ∨ b = 8) : max a b % a = 0 ∧ max a b % b = 0 := by
  rcases ha with rfl | rfl | rfl | rfl <;> rcases hb with rfl | rfl | rfl | rfl <;> decide
theorem mod_mod {a b c : Int} (h1 : a % b = 0) (h2 : b % c = 0) : a % c = 0 :=
  Int.emod_eq_zero_of_dvd (Int.dvd_trans (Int.dvd_of_emod_eq_zero h2) (Int.dvd_of_emod_eq_zero h1))
theorem upN_mod (n a : Int) : upN n a % a = 0 := by unfold upN; exact Int.mul_emod_left _ _
theorem wordsOk_mono {a a' n n' : Int} (ha : a' % a = 0) (hn : n ≤ n') : ∀ {ks os : List Int} {e e' : Int}, e' ≤ e → wordsOk a n e ks os → wordsOk a' n' e' ks os
  | [], [], e, e', he, h => by simp only [wordsOk] at h ⊢; omega
  | k :: ks, o :: os, e, e', he, h => by
    obtain ⟨h1, h2, h3, h4, h5, h6⟩ := h
    exact ⟨h1, mod_mod ha h2, by omega, h4, by omega, wordsOk_mono ha hn (Int.le_refl _) h6⟩
  | [], _ :: _, _, _, _, h => by simp [wordsOk] at h
  | _ :: _, [], _, _, _, h => by simp [wordsOk] at h
theorem wordsOk_shift {a n s : Int} (hs : s % a = 0) : ∀ {ks os : List Int} {e : Int}, wordsOk a n e ks os → wordsOk a (s + n) (s + e) ks (os.map (s + ·))
  | [], [], e, h => by simp only [wordsOk, List.map_nil] at h ⊢; omega
  | k :: ks, o :: os, e, h => by
    obtain ⟨h1, h2, h3, h4, h5, h6⟩ := h
    have h7 := wordsOk_shift hs h6
    simp only [List.map_cons, wordsOk]
    refine ⟨h1, h2, by omega, ?_, by omega, ?_⟩
    · have := mod_mod hs h2
      rw [Int.add_emod, this, h4]
      simp
    · rw [Int.add_assoc]; exact h7
  | [], _ :: _, _, h => by simp [wordsOk] at h
  | _ :: _, [], _, h => by simp [wordsOk] at h
theorem wordsOk_append {a n n' : Int} (hn : n ≤ n') {ks' os' : List Int} (h' : wordsOk a n' n ks' os') : ∀ {ks os : List Int} {e : Int}, wordsOk a n e ks os → wordsOk a n' e (ks ++ ks') (os ++ os')
  | [], [], e, h => by
    simp only [wordsOk] at h
    exact wordsOk_mono (Int.emod_self) (Int.le_refl _) h h'
  | k :: ks, o :: os, e, h => by
    obtain ⟨h1, h2, h3, h4, h5, h6⟩ := h
    exact ⟨h1, h2, h3, h4, by omega, wordsOk_append hn h' h6⟩
  | [], _ :: _, _, h => by simp [wordsOk] at h
  | _ :: _, [], _, h => by simp [wordsOk] at h

structure LieGood (x : S130) : Prop where
  ok : LieOk x
  mult : x.f0 % x.f1 = 0
  words : x.f2 = true → wordsOk x.f1 x.f0 0 x.f3 x.f4

theorem step_words {k : Nat} {y x : S130} (hy : YOk k y) (hx : LieGood x) (h : y.f2 = true → wordsOk y.f1 y.f0 0 y.f3 y.f4) : (stepL y x).f2 = true → wordsOk (stepL y x).f1 (stepL y x).f0 0 (stepL y x).f3 (stepL y x).f4 := by
  intro h2
  simp only [stepL, Bool.and_eq_true, decide_eq_true_eq] at h2
  obtain ⟨⟨hy2, hx2⟩, hc⟩ := h2
  have hm := al_max hy.align hx.ok.align
  have hu := upN_bd (n := y.f0) (a := x.f1) (by have := hx.ok.align; omega)
  have hs := hx.ok.size
  simp only [stepL, hy2, hx2, hc, decide_true, Bool.and_self, if_true]
  have hw := wordsOk_mono hm.1 hu.1 (Int.le_refl _) (h hy2)
  have hv := wordsOk_mono (a' := max y.f1 x.f1) hm.2 (Int.le_refl _) (Int.le_refl _) (wordsOk_shift (upN_mod y.f0 x.f1) (hx.words hx2))
  exact wordsOk_append (by omega) (by simpa using hv) hw
theorem foldL_words {ls : List S130} (hg : ∀ x ∈ ls, LieGood x) : ∀ (F : List Int) (k : Nat) (y : S130), YOk k y → (y.f2 = true → wordsOk y.f1 y.f0 0 y.f3 y.f4) → (∀ f ∈ F, 0 ≤ f ∧ f < ls.length) →
    ((F.foldl (fun y f => stepL y (rd_T130 ls f)) y).f2 = true → wordsOk (F.foldl (fun y f => stepL y (rd_T130 ls f)) y).f1 (F.foldl (fun y f => stepL y (rd_T130 ls f)) y).f0 0 (F.foldl (fun y f => stepL y (rd_T130 ls f)) y).f3 (F.foldl (fun y f => stepL y (rd_T130 ls f)) y).f4) := by
  intro F
  induction F with
  | nil => intro k y _ h _; exact h
  | cons f F ih =>
    intro k y hy h hF
    obtain ⟨hf0, hf1⟩ := hF f (by simp)
    have hx := hg _ (rd_mem hf0 hf1)
    exact ih (k + 1) _ (yOk_step hy hx.ok) (step_words hy hx h) (fun g hg => hF g (by simp [hg]))
theorem oneL_good {ls : List S130} {K E N n : Int} {F : List Int} (hg : ∀ x ∈ ls, LieGood x) (hin : ∀ x ∈ ls, AtIn x) (hs : shapedB K E N F ls.length n = true) (h : (oneL ls K E N F).f0 ≤ 65536) : LieGood (oneL ls K E N F) := by
  have hok := (oneL_ok (fun x hx => (hg x hx).ok) hin hs h).1
  refine ⟨hok, ?_, ?_⟩
  all_goals
    rcases shape_cases hs with h1 | ⟨rfl, hE, hN⟩ | ⟨rfl, rfl, rfl, h16, hF⟩ | h1
  · rw [show oneL ls K E N F = ⟨16, 8, true, [11, 5], [0, 8], []⟩ from if_pos h1]
    decide
  · have hx := hg _ (rd_mem hE.1 hE.2)
    show N * (rd_T130 ls E).f0 % (rd_T130 ls E).f1 = 0
    exact Int.emod_eq_zero_of_dvd (Int.dvd_mul_of_dvd_right (Int.dvd_of_emod_eq_zero hx.mult))
  · exact upN_mod _ _
  · rw [show oneL ls K E N F = ⟨nbytes K, nbytes K, true, [K], [0], []⟩ by unfold oneL; rw [if_neg (by omega), if_neg (by omega), if_neg (by omega)]]
    exact Int.emod_self
  · rw [show oneL ls K E N F = ⟨16, 8, true, [11, 5], [0, 8], []⟩ from if_pos h1]
    intro _
    simp only [wordsOk]
    decide
  · intro h2
    cases h2
  · intro h2
    have hy := foldL_ok ls (fun x hx => (hg x hx).ok) F hF
    have hu := upN_bd (n := (foldL ls F).f0) (a := (foldL ls F).f1) (by have := hy.align; omega)
    have := foldL_words hg F 0 ⟨0, 1, true, [], [], []⟩ ⟨by simp, by simp, rfl, by simp, rfl, by simp⟩ (by intro _; simp [wordsOk]) hF h2
    exact wordsOk_mono (Int.emod_self) hu.1 (Int.le_refl _) this
  · rw [show oneL ls K E N F = ⟨nbytes K, nbytes K, true, [K], [0], []⟩ by unfold oneL; rw [if_neg (by omega), if_neg (by omega), if_neg (by omega)]]
    intro _
    have hn := nbytes_of h1
    exact ⟨by omega, Int.emod_self, by omega, by simp, by simp, by simp [wordsOk]⟩

/-- Each lie is what its entry says, by those ahead. -/
theorem liesL_at {t : List Q.S124} (ht : allShaped t = true) : ∀ (m k : Nat) (ls r : List S130), t.length - k = m → k ≤ t.length → ls.length = k → (∀ x ∈ ls, LieGood x) → (∀ x ∈ ls, AtIn x) → liesL ls (t.drop k) = some r →
    (∀ x ∈ r, LieGood x) ∧ r.length = t.length ∧ r.take k = ls ∧ ∀ j : Nat, k ≤ j → j < t.length → rd_T130 r j = oneL (r.take j) (Q.rd_T124 t j).f0 (Q.rd_T124 t j).f1 (Q.rd_T124 t j).f2 (Q.rd_T124 t j).f3 := by
  intro m
  induction m with
  | zero =>
    intro k ls r hm hk hl ho hi h
    have : k = t.length := by omega
    subst this
    rw [List.drop_length, liesL] at h
    cases h
    exact ⟨ho, hl, by rw [← hl, List.take_length], fun j _ _ => by omega⟩
  | succ m ih =>
    intro k ls r hm hk hl ho hi h
    have hlt : k < t.length := by omega
    rw [liesL_step hlt] at h
    split at h
    · cases h
    · rename_i hbig
      have hs := shape_at ht hlt
      have hk2 := oneL_ok (n := t.length) (fun x hx => (ho x hx).ok) hi (by rw [hl]; exact hs) (by omega)
      have hk3 := oneL_good (n := t.length) ho hi (by rw [hl]; exact hs) (by omega)
      obtain ⟨r1, r2, r3, r4⟩ := ih (k + 1) _ r (by omega) (by omega) (by simp [hl]) (fun z hz => by
        rcases List.mem_append.1 hz with hz | hz
        · exact ho z hz
        · simp at hz; subst hz; exact hk3) (fun z hz => by
        rcases List.mem_append.1 hz with hz | hz
        · exact hi z hz
        · simp at hz; subst hz; exact hk2.2) h
      have e1 : r.take k = ls := by
        have := congrArg (List.take k) r3
        rw [List.take_take, Nat.min_eq_left (by omega), List.take_append_of_le_length (by omega), ← hl, List.take_length] at this
        rw [← hl]; exact this
      refine ⟨r1, r2, e1, fun j hj hj2 => ?_⟩
      rcases Nat.eq_or_lt_of_le hj with rfl | hj
      · rw [e1]
        have : rd_T130 r k = (r.take (k + 1)).getD k z130 := by
          unfold rd_T130
          rw [List.getD_eq_getElem?_getD, List.getD_eq_getElem?_getD, Int.toNat_natCast, List.getElem?_take_of_lt (by omega)]
        rw [this, r3, List.getD_eq_getElem?_getD, List.getElem?_append_right (by omega), hl]
        simp
      · exact r4 j (by omega) hj2
theorem lies_at {t : List Q.S124} {ls : List S130} (h : liesR t = (ls, 0)) :
    (∀ x ∈ ls, LieGood x) ∧ ls.length = t.length ∧ t.length ≤ 64 ∧ allShaped t = true ∧ ∀ j : Nat, j < t.length → rd_T130 ls j = oneL (ls.take j) (Q.rd_T124 t j).f0 (Q.rd_T124 t j).f1 (Q.rd_T124 t j).f2 (Q.rd_T124 t j).f3 := by
  unfold liesR at h
  split at h
  · cases h
  · rename_i h64
    split at h
    · cases h
    · rename_i hs
      have hs' : allShaped t = true := by cases hb : allShaped t <;> simp_all
      cases hL : liesL [] t with
      | none => rw [hL] at h; cases h
      | some r =>
        rw [hL] at h
        simp at h
        subst h
        obtain ⟨h1, h2, _, h4⟩ := liesL_at hs' t.length 0 [] r (by omega) (by omega) rfl (by simp) (by simp) (by simpa using hL)
        exact ⟨h1, h2, by omega, hs', fun j hj => h4 j (Nat.zero_le _) hj⟩
end Go.Proofs.Ytekoogedhmhpgaa

namespace Go.Proofs.Ytekoogedhmhpgaa
open Go.RowKit Go.Proofs.YtekoogedhmhpgaaW.PrintWords
section
variable {α β : Type}
theorem Ev.pos {c : Prop} [Decidable c] {a b : Nat → Option α} {r : α} (hc : c) (h : Ev a r) : Ev (fun k => if c then a k else b k) r := Ev.congr (fun _ => if_pos hc) h
theorem Ev.neg {c : Prop} [Decidable c] {a b : Nat → Option α} {r : α} (hc : ¬ c) (h : Ev b r) : Ev (fun k => if c then a k else b k) r := Ev.congr (fun _ => if_neg hc) h
theorem Ev.const {g : Option α} {r : α} (h : g = some r) : Ev (fun _ => g) r := ⟨0, fun _ _ => h⟩
theorem Ev.unroll {g : Nat → Option α} {r : α} (h : Ev (fun k => g (k + 1)) r) : Ev g r := Ev.step (fun _ => rfl) h
theorem Ev.bind_const {g : Option α} {f : Nat → α → Option β} {a : α} {r : β} (h : g = some a) (k : Ev (fun n => f n a) r) : Ev (fun n => g.bind (f n)) r := by
  subst h
  exact k
end
theorem w64_nat {i : Nat} (h : i ≤ 140737488351232) : wrap64 ((i : Int) + 1) = ((i + 1 : Nat) : Int) := by
  unfold wrap64
  omega
theorem w64_in {x : Int} (h0 : -9223372036854775808 ≤ x) (h1 : x ≤ 9223372036854775807) : wrap64 x = x := by
  unfold wrap64
  omega
end Go.Proofs.Ytekoogedhmhpgaa

