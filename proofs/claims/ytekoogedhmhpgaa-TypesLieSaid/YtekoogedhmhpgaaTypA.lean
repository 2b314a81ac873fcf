/- The contracts of what the package types shows: Check, Size, Align, Offset, Value, Words. -/
import Derived.Test.YtekoogedhmhpgaaTyp9
import Derived.Laws.CopyOwn
import Derived.WalkSpells
namespace Go.Proofs.Ytekoogedhmhpgaa
open Go.RowKit Go.Proofs.YtekoogedhmhpgaaW.PrintWords
set_option linter.unusedVariables false

theorem liesL_good {t : List Q.S124} (ht : allShaped t = true) : ∀ (m k : Nat) (ls r : List S130), t.length - k = m → k ≤ t.length → ls.length = k → (∀ x ∈ ls, LieOk x) → (∀ x ∈ ls, AtIn x) → liesL ls (t.drop k) = some r → (∀ x ∈ r, LieOk x) ∧ (∀ x ∈ r, AtIn x) ∧ r.length = t.length := by
  intro m
  induction m with
  | zero =>
    intro k ls r hm hk hl ho hi h
    have : k = t.length := by omega
    subst this
    rw [List.drop_length, liesL] at h
    cases h
    exact ⟨ho, hi, hl⟩
  | succ m ih =>
    intro k ls r hm hk hl ho hi h
    have hlt : k < t.length := by omega
    rw [liesL_step hlt] at h
    split at h
    · cases h
    · rename_i hbig
      have hs := shape_at ht hlt
      have hk2 := oneL_ok (n := t.length) ho hi (by rw [hl]; exact hs) (by omega)
      refine ih (k + 1) _ r (by omega) (by omega) (by simp [hl]) ?_ ?_ h
      · intro z hz
        rcases List.mem_append.1 hz with hz | hz
        · exact ho z hz
        · simp at hz; subst hz; exact hk2.1
      · intro z hz
        rcases List.mem_append.1 hz with hz | hz
        · exact hi z hz
        · simp at hz; subst hz; exact hk2.2
theorem lies_good {t : List Q.S124} {ls : List S130} (h : liesR t = (ls, 0)) : (∀ x ∈ ls, LieOk x) ∧ (∀ x ∈ ls, AtIn x) ∧ ls.length = t.length := by
  unfold liesR at h
  split at h
  · cases h
  · split at h
    · cases h
    · rename_i hs
      have hs' : allShaped t = true := by cases hb : allShaped t <;> simp_all
      cases hL : liesL [] t with
      | none => rw [hL] at h; cases h
      | some r =>
        rw [hL] at h
        simp at h
        subst h
        exact liesL_good hs' t.length 0 [] r (by omega) (by omega) rfl (by simp) (by simp) (by simpa using hL)
theorem entry_good {t : List Q.S124} {i : Int} {x : S130} (h : entryR t i = (x, 0)) : LieOk x ∧ AtIn x := by
  unfold entryR at h
  split at h
  · rename_i h0
    split at h
    · rename_i h1
      obtain ⟨hg, hi, _⟩ := lies_good (ls := (liesR t).1) (by rw [← h0])
      cases h
      exact ⟨hg _ (rd_mem h1.1 h1.2), hi _ (rd_mem h1.1 h1.2)⟩
    · cases h
  · rename_i h0
    exact absurd (Prod.mk.injEq _ _ _ _ ▸ h).2 h0
theorem entry_bad {t : List Q.S124} {i : Int} (h : (entryR t i).2 ≠ 0) : (entryR t i).1 = zLie := by
  unfold entryR at *
  split at h
  · split at h
    · simp at h
    · rw [if_pos ‹_›, if_neg ‹_›]
  · rw [if_neg ‹_›]

/-- The lengths within are such as can be. -/
def lenB (t : List Q.S124) : Bool := t.all fun x => decide (x.f3.length ≤ 140737488351232)
theorem lenB_of {t : List Q.S124} (h : lenB t = true) : ∀ x ∈ t, x.f3.length ≤ 140737488351232 := fun x hx => by simpa using List.all_eq_true.1 h x hx

namespace Q
def types_Check.f (t : List Q.S124) : Option Int := if lenB t = true then some (liesR t).2 else none
set_option maxHeartbeats 4000000 in
set_option maxRecDepth 100000 in
theorem types_Check.calls (A0 : Option Addr) (c0 : Nat) (l0 : List Q.S124) (r : Int) (w : World) (hr0 : Kd.C Q.k124 w A0 l0.length l0) (hc0 : l0.length ≤ c0) (h : types_Check.f l0 = some r) :
    Calls Try.prog 26 #[.slice A0 l0.length c0] w fun e w' => e = .returned (.int .i64 r) ∧ Below w.heap.size w w' := by
  unfold types_Check.f at h
  split at h
  · rename_i hb
    have HB := Lib.hid (lenB_of hb)
    have HR := Lib.hid hr0
    cases h
    clear hb hc0 hr0
    go_enter Try.func26, Try.ntmps26
    go_wp2_with fail
    refine (lies_ok l0 A0 c0 _ HR.out HB.out).mono ?_
    rintro e w2 ⟨⟨v, rfl, hR⟩, hb2⟩
    go_wp2
    go_ret
    exact ⟨rfl, hb2⟩
  · cases h

def types_Size.f (t : List Q.S124) (i : Int) : Option (Int × Int) := if lenB t = true then some ((entryR t i).1.f0, (entryR t i).2) else none
set_option maxHeartbeats 4000000 in
set_option maxRecDepth 100000 in
theorem types_Size.calls (A0 : Option Addr) (c0 : Nat) (l0 : List Q.S124) (a1 : Int) (r1 : Int) (r2 : Int) (w : World) (hr0 : Kd.C Q.k124 w A0 l0.length l0) (hc0 : l0.length ≤ c0) (h : types_Size.f l0 a1 = some (r1, r2)) :
    Calls Try.prog 28 #[.slice A0 l0.length c0, .int .i64 a1] w fun e w' => e = .returned (.tuple #[.int .i64 r1, .int .i64 r2]) ∧ Below w.heap.size w w' := by
  unfold types_Size.f at h
  split at h
  · rename_i hb
    have HB := Lib.hid (lenB_of hb)
    have HR := Lib.hid hr0
    have H := Lib.hid (Option.some.inj h)
    clear hb hc0 hr0 h
    go_enter Try.func28, Try.ntmps28
    go_wp2_with fail
    refine (entry_ok l0 A0 c0 a1 _ HR.out HB.out).mono ?_
    rintro e w2 ⟨⟨v, rfl, A3, c3, A4, c4, A5, c5, rfl, h3, h4, h5⟩, hb2⟩
    have HB2 := Lib.hid hb2
    generalize entryR l0 a1 = r at *
    obtain ⟨x, er⟩ := r
    clear h3 h4 h5 hb2
    go_wp2
    go_ret2
    have := H.out
    simp only [Prod.mk.injEq] at this
    obtain ⟨rfl, rfl⟩ := this
    exact ⟨rfl, HB2.out.alloc HB2.out.size _⟩
  · cases h

def types_Align.f (t : List Q.S124) (i : Int) : Option (Int × Int) := if lenB t = true then some ((entryR t i).1.f1, (entryR t i).2) else none
set_option maxHeartbeats 4000000 in
set_option maxRecDepth 100000 in
theorem types_Align.calls (A0 : Option Addr) (c0 : Nat) (l0 : List Q.S124) (a1 : Int) (r1 : Int) (r2 : Int) (w : World) (hr0 : Kd.C Q.k124 w A0 l0.length l0) (hc0 : l0.length ≤ c0) (h : types_Align.f l0 a1 = some (r1, r2)) :
    Calls Try.prog 29 #[.slice A0 l0.length c0, .int .i64 a1] w fun e w' => e = .returned (.tuple #[.int .i64 r1, .int .i64 r2]) ∧ Below w.heap.size w w' := by
  unfold types_Align.f at h
  split at h
  · rename_i hb
    have HB := Lib.hid (lenB_of hb)
    have HR := Lib.hid hr0
    have H := Lib.hid (Option.some.inj h)
    clear hb hc0 hr0 h
    go_enter Try.func29, Try.ntmps29
    go_wp2_with fail
    refine (entry_ok l0 A0 c0 a1 _ HR.out HB.out).mono ?_
    rintro e w2 ⟨⟨v, rfl, A3, c3, A4, c4, A5, c5, rfl, h3, h4, h5⟩, hb2⟩
    have HB2 := Lib.hid hb2
    generalize entryR l0 a1 = r at *
    obtain ⟨x, er⟩ := r
    clear h3 h4 h5 hb2
    go_wp2
    go_ret2
    have := H.out
    simp only [Prod.mk.injEq] at this
    obtain ⟨rfl, rfl⟩ := this
    exact ⟨rfl, HB2.out.alloc HB2.out.size _⟩
  · cases h

def types_Value.f (t : List Q.S124) (i : Int) : Option (Bool × Int) := if lenB t = true then some ((entryR t i).1.f2, (entryR t i).2) else none
set_option maxHeartbeats 4000000 in
set_option maxRecDepth 100000 in
theorem types_Value.calls (A0 : Option Addr) (c0 : Nat) (l0 : List Q.S124) (a1 : Int) (r1 : Bool) (r2 : Int) (w : World) (hr0 : Kd.C Q.k124 w A0 l0.length l0) (hc0 : l0.length ≤ c0) (h : types_Value.f l0 a1 = some (r1, r2)) :
    Calls Try.prog 86 #[.slice A0 l0.length c0, .int .i64 a1] w fun e w' => e = .returned (.tuple #[.bool r1, .int .i64 r2]) ∧ Below w.heap.size w w' := by
  unfold types_Value.f at h
  split at h
  · rename_i hb
    have HB := Lib.hid (lenB_of hb)
    have HR := Lib.hid hr0
    have H := Lib.hid (Option.some.inj h)
    clear hb hc0 hr0 h
    go_enter Try.func86, Try.ntmps86
    go_wp2_with fail
    refine (entry_ok l0 A0 c0 a1 _ HR.out HB.out).mono ?_
    rintro e w2 ⟨⟨v, rfl, A3, c3, A4, c4, A5, c5, rfl, h3, h4, h5⟩, hb2⟩
    have HB2 := Lib.hid hb2
    generalize entryR l0 a1 = r at *
    obtain ⟨x, er⟩ := r
    clear h3 h4 h5 hb2
    go_wp2
    go_ret2
    have := H.out
    simp only [Prod.mk.injEq] at this
    obtain ⟨rfl, rfl⟩ := this
    exact ⟨rfl, HB2.out.alloc HB2.out.size _⟩
  · cases h

def types_Offset.f (t : List Q.S124) (i f : Int) : Option (Int × Int) := if lenB t = true then some (if (entryR t i).2 = 0 then (if 0 ≤ f ∧ f < (entryR t i).1.f5.length then (rd (entryR t i).1.f5 f, 0) else (0, 70)) else (0, (entryR t i).2)) else none
set_option maxHeartbeats 4000000 in
set_option maxRecDepth 100000 in
theorem types_Offset.calls (A0 : Option Addr) (c0 : Nat) (l0 : List Q.S124) (a1 a2 : Int) (r1 : Int) (r2 : Int) (w : World) (hr0 : Kd.C Q.k124 w A0 l0.length l0) (hc0 : l0.length ≤ c0) (h : types_Offset.f l0 a1 a2 = some (r1, r2)) :
    Calls Try.prog 83 #[.slice A0 l0.length c0, .int .i64 a1, .int .i64 a2] w fun e w' => e = .returned (.tuple #[.int .i64 r1, .int .i64 r2]) ∧ Below w.heap.size w w' := by
  unfold types_Offset.f at h
  split at h
  · rename_i hb
    have HB := Lib.hid (lenB_of hb)
    have HR := Lib.hid hr0
    have H := Lib.hid (Option.some.inj h)
    clear hb hc0 hr0 h
    go_enter Try.func83, Try.ntmps83
    go_wp2_with fail
    refine (entry_ok l0 A0 c0 a1 _ HR.out HB.out).mono ?_
    rintro e w2 ⟨⟨v, rfl, A3, c3, A4, c4, A5, c5, rfl, h3, h4, h5⟩, hb2⟩
    have HB2 := Lib.hid hb2
    generalize entryR l0 a1 = r at *
    obtain ⟨x, er⟩ := r
    dsimp only at H h5 ⊢
    have HH := H.out
    by_cases he : er = 0
    · subst he
      rw [if_pos rfl] at HH
      by_cases hf : 0 ≤ a2 ∧ a2 < x.f5.length
      · rw [if_pos hf] at HH
        obtain ⟨hf0, hf1⟩ := hf
        obtain ⟨ad, rfl, hcell⟩ := IntsAt.cell h5 (by omega)
        have hck : w2.cell? (ad.add a2.toNat) = some (.int .i64 (rd x.f5 a2)) := hcell a2.toNat (by omega)
        have hco := fun o => cell_old (o := o) hck
        have HH' := Lib.hid HH
        clear h3 h4 h5 hb2 HH H hcell hck
        go_wp2
        go_ret2
        have := HH'.out
        simp only [Prod.mk.injEq] at this
        obtain ⟨rfl, rfl⟩ := this
        exact ⟨rfl, HB2.out.alloc HB2.out.size _⟩
      · rw [if_neg hf] at HH
        have HH' := Lib.hid HH
        have hf' : a2 < 0 ∨ (x.f5.length : Int) ≤ a2 := by omega
        clear h3 h4 h5 hb2 HH H hf
        rcases hf' with hf | hf
        all_goals
          go_wp2
          go_ret2
          have := HH'.out
          simp only [Prod.mk.injEq] at this
          obtain ⟨rfl, rfl⟩ := this
          exact ⟨rfl, HB2.out.alloc HB2.out.size _⟩
    · rw [if_neg he] at HH
      have HH' := Lib.hid HH
      clear h3 h4 h5 hb2 HH H
      go_wp2
      go_ret2
      have := HH'.out
      simp only [Prod.mk.injEq] at this
      obtain ⟨rfl, rfl⟩ := this
      exact ⟨rfl, HB2.out.alloc HB2.out.size _⟩
  · cases h

end Q
end Go.Proofs.Ytekoogedhmhpgaa
