/- The contracts of package word's small functions and of the reference's: Width, Bytes, signed, Canon, Is. -/
import Derived.Test.YtekoogedhmhpgaaRows
import Derived.Test.YtekoogedhmhpgaaPlain
import Derived.WalkSpells
import Derived.WalkLawsBesides
import Derived.Deep.QuietTactic
import Derived.BigQuiet
namespace Go.Proofs.Ytekoogedhmhpgaa
open Go.RowKit

theorem ret_int {k : IntKind} {a b : Int} (h : a = b) : Ending.returned (.int k a) = .returned (.int k b) := by rw [h]
theorem ret_bool {a b : Bool} (h : a = b) : Ending.returned (.bool a) = .returned (.bool b) := by rw [h]
theorem kinds_of {k : Int} (h : 1 ≤ k ∧ k ≤ 11) : k = 1 ∨ k = 2 ∨ k = 3 ∨ k = 4 ∨ k = 5 ∨ k = 6 ∨ k = 7 ∨ k = 8 ∨ k = 9 ∨ k = 10 ∨ k = 11 := by omega
theorem width_none {k : Int} (h : ¬ (1 ≤ k ∧ k ≤ 11)) : width k = 0 := by
  unfold width
  repeat (first | rfl | rw [if_neg (by omega)])
theorem nbytes_none {k : Int} (h : ¬ (1 ≤ k ∧ k ≤ 11)) : nbytes k = 0 := by
  unfold nbytes
  repeat (first | rfl | rw [if_neg (by omega)])
theorem canon_none {k x : Int} (h : ¬ (1 ≤ k ∧ k ≤ 11)) : canon k x = 0 := by
  unfold canon
  repeat (first | rfl | rw [if_neg (by omega)])

set_option maxHeartbeats 400000 in
set_option maxRecDepth 100000 in
theorem word_Width (k : Int) (w : World) :
    Calls Try.prog 117 #[.int .i64 k] w fun e w' => e = .returned (.int .i64 (width k)) ∧ w = w' := by
  by_cases h : 1 ≤ k ∧ k ≤ 11
  · have := kinds_of h
    clear h
    rcases this with rfl | rfl | rfl | rfl | rfl | rfl | rfl | rfl | rfl | rfl | rfl
    all_goals
      go_enter Try.func117, Try.ntmps117
      go_wp2
      go_ret
      exact ⟨rfl, rfl⟩
  · have hz := Lib.hid (width_none h)
    go_enter Try.func117, Try.ntmps117
    go_wp2
    all_goals first | (exfalso; omega) | (go_ret; exact ⟨ret_int hz.out.symm, rfl⟩)

set_option maxHeartbeats 400000 in
set_option maxRecDepth 100000 in
theorem ref1_Width (k : Int) (w : World) :
    Calls Try.prog 59 #[.int .i64 k] w fun e w' => e = .returned (.int .i64 (width k)) ∧ w = w' := by
  by_cases h : 1 ≤ k ∧ k ≤ 11
  · have := kinds_of h
    clear h
    rcases this with rfl | rfl | rfl | rfl | rfl | rfl | rfl | rfl | rfl | rfl | rfl
    all_goals
      go_enter Try.func59, Try.ntmps59
      go_wp2
      go_ret
      exact ⟨rfl, rfl⟩
  · have hz := Lib.hid (width_none h)
    go_enter Try.func59, Try.ntmps59
    go_wp2
    all_goals first | (exfalso; omega) | (go_ret; exact ⟨ret_int hz.out.symm, rfl⟩)

set_option maxHeartbeats 400000 in
set_option maxRecDepth 100000 in
theorem word_Bytes (k : Int) (w : World) :
    Calls Try.prog 61 #[.int .i64 k] w fun e w' => e = .returned (.int .i64 (nbytes k)) ∧ w = w' := by
  by_cases h : 1 ≤ k ∧ k ≤ 11
  · have := kinds_of h
    clear h
    rcases this with rfl | rfl | rfl | rfl | rfl | rfl | rfl | rfl | rfl | rfl | rfl
    all_goals
      go_enter Try.func61, Try.ntmps61
      go_wp2
      go_ret
      exact ⟨rfl, rfl⟩
  · have hz := Lib.hid (nbytes_none h)
    have hw := Lib.hid (width_none h)
    have hk : (k == 1) = false := by rw [beq_eq_false_iff_ne]; omega
    go_enter Try.func61, Try.ntmps61
    go_wp2_with (go_at_call 117; refine (word_Width _ _).mono ?_; rintro e w' ⟨rfl, rfl⟩; rw [hw.out])
    go_ret
    exact ⟨ret_int hz.out.symm, rfl⟩

set_option maxHeartbeats 400000 in
set_option maxRecDepth 100000 in
theorem ref1_Bytes (k : Int) (w : World) :
    Calls Try.prog 15 #[.int .i64 k] w fun e w' => e = .returned (.int .i64 (nbytes k)) ∧ w = w' := by
  by_cases h : 1 ≤ k ∧ k ≤ 11
  · have := kinds_of h
    clear h
    rcases this with rfl | rfl | rfl | rfl | rfl | rfl | rfl | rfl | rfl | rfl | rfl
    all_goals
      go_enter Try.func15, Try.ntmps15
      go_wp2
      go_ret
      exact ⟨rfl, rfl⟩
  · have hz := Lib.hid (nbytes_none h)
    have hw := Lib.hid (width_none h)
    have hk : (k == 1) = false := by rw [beq_eq_false_iff_ne]; omega
    go_enter Try.func15, Try.ntmps15
    go_wp2_with (go_at_call 59; refine (ref1_Width _ _).mono ?_; rintro e w' ⟨rfl, rfl⟩; rw [hw.out])
    go_ret
    exact ⟨ret_int hz.out.symm, rfl⟩

set_option maxHeartbeats 400000 in
set_option maxRecDepth 100000 in
theorem word_signed (k : Int) (w : World) :
    Calls Try.prog 118 #[.int .i64 k] w fun e w' => e = .returned (.bool (decide (2 ≤ k ∧ k ≤ 5))) ∧ w = w' := by
  go_enter Try.func118, Try.ntmps118
  go_wp2
  all_goals
    go_ret
    exact ⟨ret_bool (by rw [Bool.eq_iff_iff]; simp; omega), rfl⟩

set_option maxHeartbeats 400000 in
set_option maxRecDepth 100000 in
theorem ref1_Signed (k : Int) (w : World) :
    Calls Try.prog 60 #[.int .i64 k] w fun e w' => e = .returned (.bool (decide (2 ≤ k ∧ k ≤ 5))) ∧ w = w' := by
  go_enter Try.func60, Try.ntmps60
  go_wp2
  all_goals
    go_ret
    exact ⟨ret_bool (by rw [Bool.eq_iff_iff]; simp; omega), rfl⟩

set_option maxHeartbeats 400000 in
set_option maxRecDepth 100000 in
theorem ref1_Word (k : Int) (w : World) :
    Calls Try.prog 58 #[.int .i64 k] w fun e w' => e = .returned (.bool (decide (1 ≤ k ∧ k ≤ 11))) ∧ w = w' := by
  go_enter Try.func58, Try.ntmps58
  go_wp2
  all_goals
    go_ret
    exact ⟨ret_bool (by rw [Bool.eq_iff_iff]; simp; omega), rfl⟩

set_option maxHeartbeats 1000000 in
set_option maxRecDepth 100000 in
theorem word_Canon (k x : Int) (w : World) (h0 : 0 ≤ x) (h1 : x < 18446744073709551616) :
    Calls Try.prog 68 #[.int .i64 k, .int .u64 x] w fun e w' => e = .returned (.int .u64 (canon k x)) ∧ w = w' := by
  by_cases h : 1 ≤ k ∧ k ≤ 11
  · have := kinds_of h
    clear h
    rcases this with rfl | rfl | rfl | rfl | rfl | rfl | rfl | rfl | rfl | rfl | rfl
    all_goals
      go_enter Try.func68, Try.ntmps68
      go_wp2
      go_ret
      refine ⟨ret_int ?_, rfl⟩
      simp [canon]
      try (simp only [IntKind.wrap_u64, wrap64]; omega)
  · have hz := Lib.hid (canon_none (x := x) h)
    have hw := Lib.hid (width_none h)
    clear h
    go_enter Try.func68, Try.ntmps68
    go_wp2_with (go_at_call 117; refine (word_Width _ _).mono ?_; rintro e w' ⟨rfl, rfl⟩; rw [hw.out])
    go_ret
    exact ⟨ret_int hz.out.symm, rfl⟩

set_option maxHeartbeats 1000000 in
set_option maxRecDepth 100000 in
theorem ref1_Canon (k x : Int) (w : World) (h0 : 0 ≤ x) (h1 : x < 18446744073709551616) :
    Calls Try.prog 13 #[.int .i64 k, .int .u64 x] w fun e w' => e = .returned (.int .u64 (canon k x)) ∧ w = w' := by
  by_cases h : 1 ≤ k ∧ k ≤ 11
  · have := kinds_of h
    clear h
    rcases this with rfl | rfl | rfl | rfl | rfl | rfl | rfl | rfl | rfl | rfl | rfl
    all_goals
      go_enter Try.func13, Try.ntmps13
      go_wp2
      go_ret
      refine ⟨ret_int ?_, rfl⟩
      simp [canon]
      try (simp only [IntKind.wrap_u64, wrap64]; omega)
  · have hz := Lib.hid (canon_none (x := x) h)
    have hw : decide (1 ≤ k ∧ k ≤ 11) = false := by simp; omega
    have hw := Lib.hid hw
    clear h
    go_enter Try.func13, Try.ntmps13
    go_wp2_with (go_at_call 58; refine (ref1_Word _ _).mono ?_; rintro e w' ⟨rfl, rfl⟩; rw [hw.out])
    go_ret
    exact ⟨ret_int hz.out.symm, rfl⟩

set_option maxHeartbeats 1000000 in
set_option maxRecDepth 100000 in
theorem word_Is (k x : Int) (w : World) (h0 : 0 ≤ x) (h1 : x < 18446744073709551616) :
    Calls Try.prog 62 #[.int .i64 k, .int .u64 x] w fun e w' => e = .returned (.bool (isWord k x)) ∧ w = w' := by
  by_cases h : 1 ≤ k ∧ k ≤ 11
  · have hf : isWord k x = decide (canon k x = x) := by simp [isWord, h]
    have hf := Lib.hid hf
    have hw : decide (0 < width k) = true := by
      rcases kinds_of h with rfl | rfl | rfl | rfl | rfl | rfl | rfl | rfl | rfl | rfl | rfl <;> rfl
    have hw' : decide (1 ≤ k ∧ k ≤ 11) = true := by simp [h]
    have hw2 := Lib.hid hw'
    clear h hw'
    go_enter Try.func62, Try.ntmps62
    go_wp2_with (first | (go_at_call 117; refine (word_Width _ _).mono ?_; rintro e w' ⟨rfl, rfl⟩; try rw [hw.out]) | (go_at_call 68; refine (word_Canon _ _ _ h0 h1).mono ?_; rintro e w' ⟨rfl, rfl⟩))
    go_ret
    exact ⟨ret_bool (by rw [hf.out, Bool.eq_iff_iff]; simp), rfl⟩
  · have hf : isWord k x = false := by simp [isWord]; intro h1 h2; exact absurd ⟨h1, h2⟩ h
    have hf := Lib.hid hf
    have hw := Lib.hid (width_none h)
    have hw' : decide (1 ≤ k ∧ k ≤ 11) = false := by simp; omega
    have hw2 := Lib.hid hw'
    clear h hw'
    go_enter Try.func62, Try.ntmps62
    go_wp2_with (first | (go_at_call 117; refine (word_Width _ _).mono ?_; rintro e w' ⟨rfl, rfl⟩; try rw [hw.out]))
    go_ret
    exact ⟨ret_bool hf.out.symm, rfl⟩

set_option maxHeartbeats 1000000 in
set_option maxRecDepth 100000 in
theorem ref1_Is (k x : Int) (w : World) (h0 : 0 ≤ x) (h1 : x < 18446744073709551616) :
    Calls Try.prog 74 #[.int .i64 k, .int .u64 x] w fun e w' => e = .returned (.bool (isWord k x)) ∧ w = w' := by
  by_cases h : 1 ≤ k ∧ k ≤ 11
  · have hf : isWord k x = decide (canon k x = x) := by simp [isWord, h]
    have hf := Lib.hid hf
    have hw : decide (0 < width k) = true := by
      rcases kinds_of h with rfl | rfl | rfl | rfl | rfl | rfl | rfl | rfl | rfl | rfl | rfl <;> rfl
    have hw' : decide (1 ≤ k ∧ k ≤ 11) = true := by simp [h]
    have hw2 := Lib.hid hw'
    clear h hw'
    go_enter Try.func74, Try.ntmps74
    go_wp2_with (first | (go_at_call 58; refine (ref1_Word _ _).mono ?_; rintro e w' ⟨rfl, rfl⟩; rw [hw2.out]) | (go_at_call 13; refine (ref1_Canon _ _ _ h0 h1).mono ?_; rintro e w' ⟨rfl, rfl⟩))
    go_ret
    exact ⟨ret_bool (by rw [hf.out, Bool.eq_iff_iff]; simp), rfl⟩
  · have hf : isWord k x = false := by simp [isWord]; intro h1 h2; exact absurd ⟨h1, h2⟩ h
    have hf := Lib.hid hf
    have hw := Lib.hid (width_none h)
    have hw' : decide (1 ≤ k ∧ k ≤ 11) = false := by simp; omega
    have hw2 := Lib.hid hw'
    clear h hw'
    go_enter Try.func74, Try.ntmps74
    go_wp2_with (first | (go_at_call 58; refine (ref1_Word _ _).mono ?_; rintro e w' ⟨rfl, rfl⟩; rw [hw2.out]))
    go_ret
    exact ⟨ret_bool hf.out.symm, rfl⟩

end Go.Proofs.Ytekoogedhmhpgaa
