/- The walk of 'one': one thing done by both memories. -/
import Derived.Test.YtekoogedhmhpgaaMem6
import Derived.Test.YtekoogedhmhpgaaMemApart
import Derived.Test.YtekoogedhmhpgaaKmem
namespace Go.Proofs.Ytekoogedhmhpgaa
open Go.RowKit Go.Proofs.YtekoogedhmhpgaaW.PrintWords

/-- Both memories hold the same bytes, in four blocks of their own. -/
structure TwoMem (w : World) (g d g' d' n : Nat) (G : Nat → Int) : Prop where
  m : MemAt w g d n G
  r : MemAt w g' d' n G
  n1 : g ≠ g'
  n2 : g ≠ d'
  n3 : d ≠ g'
  n4 : d ≠ d'
theorem TwoMem.keep {w w' : World} {g d g' d' n : Nat} {G : Nat → Int} {S : Nat → Prop} (h : TwoMem w g d g' d' n G) (k : Keep S w w') (h1 : ¬ S g) (h2 : ¬ S d) (h3 : ¬ S g') (h4 : ¬ S d') : TwoMem w' g d g' d' n G :=
  ⟨h.m.keep k h1 h2, h.r.keep k h3 h4, h.n1, h.n2, h.n3, h.n4⟩
theorem TwoMem.grow {w w' : World} {g d g' d' n : Nat} {G : Nat → Int} (h : TwoMem w g d g' d' n G) (k : Below w.heap.size w w') : TwoMem w' g d g' d' n G :=
  h.keep (S := fun _ => False) (Keep.of_below k) (fun f => f) (fun f => f) (fun f => f) (fun f => f)

/-- What 'one' leaves behind: true; both memories hold the same; nothing else has turned. -/
structure OneDone (w : World) (g d g' d' n : Nat) (e : Ending) (w' : World) : Prop where
  e : e = .returned (.bool true)
  m : ∃ G, TwoMem w' g d g' d' n G
  k : Keep (fun i => i = d ∨ i = d') w w'

theorem ref1_Word_of (k : Int) (b : Bool) (w : World) (h : decide (1 ≤ k ∧ k ≤ 11) = b) : Calls Try.prog 58 #[.int .i64 k] w fun e w' => e = .returned (.bool b) ∧ w = w' := h ▸ ref1_Word k w
theorem ref1_Is_of (k x : Int) (b : Bool) (w : World) (h0 : 0 ≤ x) (h1 : x < 18446744073709551616) (h : isWord k x = b) : Calls Try.prog 74 #[.int .i64 k, .int .u64 x] w fun e w' => e = .returned (.bool b) ∧ w = w' := h ▸ ref1_Is k x w h0 h1
theorem rload_any (g d n : Nat) (a k : Int) (G : Nat → Int) (w : World) (h : MemAt w g d n G) (hk : 1 ≤ k ∧ k ≤ 11) (h1 : 4096 ≤ a) (h2 : a + nbytes k ≤ n) :
    Calls Try.prog 73 #[.pointer (some ⟨g, 0, none⟩), .int .u64 a, .int .i64 k] w fun e w' => e = .returned (.tuple #[.int .u64 (canon k (le (fun i => G (a.toNat + i)) (nbytes k).toNat)), .bool true]) ∧ w = w' := by
  obtain ⟨b, rfl⟩ : ∃ b : Nat, a = b := ⟨a.toNat, by omega⟩
  have hb := nbytes_bd hk
  rw [Int.toNat_natCast]
  exact rload_ok g d n b (nbytes k).toNat k G w h (by omega) (by omega) (by omega) (by omega)
theorem rstore_any (g d n : Nat) (a k x : Int) (G : Nat → Int) (w : World) (h : MemAt w g d n G) (hk : 1 ≤ k ∧ k ≤ 11) (h1 : 4096 ≤ a) (h2 : a + nbytes k ≤ n) :
    Calls Try.prog 75 #[.pointer (some ⟨g, 0, none⟩), .int .u64 a, .int .i64 k, .int .u64 x] w fun e w' => e = .returned (.bool true) ∧ MemAt w' g d n (laid G x a.toNat (nbytes k).toNat) ∧ Keep (· = d) w w' := by
  obtain ⟨b, rfl⟩ : ∃ b : Nat, a = b := ⟨a.toNat, by omega⟩
  have hb := nbytes_bd hk
  rw [Int.toNat_natCast]
  exact rstore_ok g d n b (nbytes k).toNat k x G w h (by omega) (by omega) (by omega) (by omega)
theorem word_yes {k : Int} (h : 1 ≤ k ∧ k ≤ 11) : decide (1 ≤ k ∧ k ≤ 11) = true := by simp [h]
theorem word_no {k : Int} (h : ¬ (1 ≤ k ∧ k ≤ 11)) : decide (1 ≤ k ∧ k ≤ 11) = false := by simp; omega

set_option maxHeartbeats 800000 in
set_option maxRecDepth 100000 in
theorem one_load_kind (g d g' d' n : Nat) (G : Nat → Int) (K N A X : Int) (v : Value) (w : World) (h : TwoMem w g d g' d' n G) (hK : ¬ (1 ≤ K ∧ K ≤ 11)) :
    Calls Try.prog 21 #[.pointer (some ⟨g, 0, none⟩), .pointer (some ⟨g', 0, none⟩), .agg #[.int .i64 0, .int .i64 K, .int .i64 N, .int .u64 A, .int .u64 X, v]] w (OneDone w g d g' d' n) := by
  have H0 := Lib.hid h
  have H := Lib.hid (h.grow ((Below.refl _ _).alloc (Nat.le_refl _) (.cells #[.int .i64 0, .int .i64 K, .int .i64 N, .int .u64 A, .int .u64 X, v] 32)))
  have KB := Lib.hid ((Keep.refl (fun i => i = d ∨ i = d') w).alloc (.cells #[.int .i64 0, .int .i64 K, .int .i64 N, .int .u64 A, .int .u64 X, v] 32))
  clear h
  have hw := Lib.hid (word_no hK)
  have hk := Lib.hid (nbytes_none hK)
  clear hK
  go_enter Try.func21, Try.ntmps21
  go_wp2_with (first | (go_at_call 16; refine (load_kind _ _ _ _ hk.out).mono ?_; rintro e w' ⟨rfl, rfl⟩) | (go_at_call 12; refine (num2 _ _).mono ?_; rintro e w' ⟨rfl, rfl⟩) | (go_at_call 58; refine (ref1_Word_of _ _ _ hw.out).mono ?_; rintro e w' ⟨rfl, rfl⟩))
  go_ret
  exact ⟨rfl, ⟨G, H.out⟩, KB.out⟩

set_option maxHeartbeats 800000 in
set_option maxRecDepth 100000 in
theorem one_load_ok (g d g' d' n : Nat) (G : Nat → Int) (K N A X : Int) (v : Value) (w : World) (h : TwoMem w g d g' d' n G) (hK : 1 ≤ K ∧ K ≤ 11) (h1 : 4096 ≤ A) (h2 : A + nbytes K ≤ n) :
    Calls Try.prog 21 #[.pointer (some ⟨g, 0, none⟩), .pointer (some ⟨g', 0, none⟩), .agg #[.int .i64 0, .int .i64 K, .int .i64 N, .int .u64 A, .int .u64 X, v]] w (OneDone w g d g' d' n) := by
  have H0 := Lib.hid h
  have H := Lib.hid (h.grow ((Below.refl _ _).alloc (Nat.le_refl _) (.cells #[.int .i64 0, .int .i64 K, .int .i64 N, .int .u64 A, .int .u64 X, v] 32)))
  have KB := Lib.hid ((Keep.refl (fun i => i = d ∨ i = d') w).alloc (.cells #[.int .i64 0, .int .i64 K, .int .i64 N, .int .u64 A, .int .u64 X, v] 32))
  clear h
  have hw := Lib.hid (word_yes hK)
  have hk := Lib.hid hK
  have h2' := Lib.hid h2
  clear hK h2
  go_enter Try.func21, Try.ntmps21
  go_wp2_with (first | (go_at_call 16; refine (load_any g d n _ _ G _ H.out.m hk.out h1 h2'.out).mono ?_; rintro e w' ⟨rfl, rfl⟩) | (go_at_call 73; refine (rload_any g' d' n _ _ G _ H.out.r hk.out h1 h2'.out).mono ?_; rintro e w' ⟨rfl, rfl⟩) | (go_at_call 12; refine (num2 _ _).mono ?_; rintro e w' ⟨rfl, rfl⟩) | (go_at_call 58; refine (ref1_Word_of _ _ _ hw.out).mono ?_; rintro e w' ⟨rfl, rfl⟩))
  go_ret
  exact ⟨rfl, ⟨G, H.out⟩, KB.out⟩

set_option maxHeartbeats 800000 in
set_option maxRecDepth 100000 in
theorem one_load_no (g d g' d' n : Nat) (G : Nat → Int) (K N A X : Int) (v : Value) (w : World) (h : TwoMem w g d g' d' n G) (hK : 1 ≤ K ∧ K ≤ 11) (h0 : 0 ≤ A) (h1 : A < 18446744073709551616) (h2 : A < 4096 ∨ n < A + nbytes K) :
    Calls Try.prog 21 #[.pointer (some ⟨g, 0, none⟩), .pointer (some ⟨g', 0, none⟩), .agg #[.int .i64 0, .int .i64 K, .int .i64 N, .int .u64 A, .int .u64 X, v]] w (OneDone w g d g' d' n) := by
  have H0 := Lib.hid h
  have H := Lib.hid (h.grow ((Below.refl _ _).alloc (Nat.le_refl _) (.cells #[.int .i64 0, .int .i64 K, .int .i64 N, .int .u64 A, .int .u64 X, v] 32)))
  have KB := Lib.hid ((Keep.refl (fun i => i = d ∨ i = d') w).alloc (.cells #[.int .i64 0, .int .i64 K, .int .i64 N, .int .u64 A, .int .u64 X, v] 32))
  clear h
  have hw := Lib.hid (word_yes hK)
  have hk := Lib.hid (nbytes_of hK)
  have h2' := Lib.hid h2
  clear hK h2
  go_enter Try.func21, Try.ntmps21
  go_wp2_with (first | (go_at_call 16; refine (load_no g d n _ _ _ G _ H.out.m rfl hk.out h0 h1 h2'.out).mono ?_; rintro e w' ⟨rfl, rfl⟩) | (go_at_call 73; refine (rload_no g' d' n _ _ _ G _ H.out.r rfl hk.out h0 h1 h2'.out).mono ?_; rintro e w' ⟨rfl, rfl⟩) | (go_at_call 12; refine (num2 _ _).mono ?_; rintro e w' ⟨rfl, rfl⟩) | (go_at_call 58; refine (ref1_Word_of _ _ _ hw.out).mono ?_; rintro e w' ⟨rfl, rfl⟩))
  go_ret
  exact ⟨rfl, ⟨G, H.out⟩, KB.out⟩

set_option maxHeartbeats 800000 in
set_option maxRecDepth 100000 in
theorem one_store_kind (g d g' d' n : Nat) (G : Nat → Int) (K N A X : Int) (v : Value) (w : World) (h : TwoMem w g d g' d' n G) (hK : ¬ (1 ≤ K ∧ K ≤ 11)) :
    Calls Try.prog 21 #[.pointer (some ⟨g, 0, none⟩), .pointer (some ⟨g', 0, none⟩), .agg #[.int .i64 1, .int .i64 K, .int .i64 N, .int .u64 A, .int .u64 X, v]] w (OneDone w g d g' d' n) := by
  have H0 := Lib.hid h
  have H := Lib.hid (h.grow ((Below.refl _ _).alloc (Nat.le_refl _) (.cells #[.int .i64 1, .int .i64 K, .int .i64 N, .int .u64 A, .int .u64 X, v] 32)))
  have KB := Lib.hid ((Keep.refl (fun i => i = d ∨ i = d') w).alloc (.cells #[.int .i64 1, .int .i64 K, .int .i64 N, .int .u64 A, .int .u64 X, v] 32))
  clear h
  have hw := Lib.hid (word_no hK)
  have hk := Lib.hid (nbytes_none hK)
  clear hK
  go_enter Try.func21, Try.ntmps21
  go_wp2_with (first | (go_at_call 14; refine (store_kind _ _ _ _ _ hk.out).mono ?_; rintro e w' ⟨rfl, rfl⟩) | (go_at_call 12; refine (num2 _ _).mono ?_; rintro e w' ⟨rfl, rfl⟩) | (go_at_call 58; refine (ref1_Word_of _ _ _ hw.out).mono ?_; rintro e w' ⟨rfl, rfl⟩))
  go_ret
  exact ⟨rfl, ⟨G, H.out⟩, KB.out⟩

set_option maxHeartbeats 800000 in
set_option maxRecDepth 100000 in
theorem one_store_form (g d g' d' n : Nat) (G : Nat → Int) (K N A X : Int) (v : Value) (w : World) (h : TwoMem w g d g' d' n G) (hK : 1 ≤ K ∧ K ≤ 11) (hX0 : 0 ≤ X) (hX1 : X < 18446744073709551616) (hx : isWord K X = false) :
    Calls Try.prog 21 #[.pointer (some ⟨g, 0, none⟩), .pointer (some ⟨g', 0, none⟩), .agg #[.int .i64 1, .int .i64 K, .int .i64 N, .int .u64 A, .int .u64 X, v]] w (OneDone w g d g' d' n) := by
  have H0 := Lib.hid h
  have H := Lib.hid (h.grow ((Below.refl _ _).alloc (Nat.le_refl _) (.cells #[.int .i64 1, .int .i64 K, .int .i64 N, .int .u64 A, .int .u64 X, v] 32)))
  have KB := Lib.hid ((Keep.refl (fun i => i = d ∨ i = d') w).alloc (.cells #[.int .i64 1, .int .i64 K, .int .i64 N, .int .u64 A, .int .u64 X, v] 32))
  clear h
  have hw := Lib.hid (word_yes hK)
  have hk := Lib.hid (nbytes_bd hK)
  have hx := Lib.hid hx
  clear hK
  go_enter Try.func21, Try.ntmps21
  go_wp2_with (first | (go_at_call 14; refine (store_form _ _ _ _ _ (by have := hk.out; omega) hX0 hX1 hx.out).mono ?_; rintro e w' ⟨rfl, rfl⟩) | (go_at_call 12; refine (num2 _ _).mono ?_; rintro e w' ⟨rfl, rfl⟩) | (go_at_call 58; refine (ref1_Word_of _ _ _ hw.out).mono ?_; rintro e w' ⟨rfl, rfl⟩) | (go_at_call 74; refine (ref1_Is_of _ _ _ _ hX0 hX1 hx.out).mono ?_; rintro e w' ⟨rfl, rfl⟩))
  go_ret
  exact ⟨rfl, ⟨G, H.out⟩, KB.out⟩

set_option maxHeartbeats 800000 in
set_option maxRecDepth 100000 in
theorem one_store_no (g d g' d' n : Nat) (G : Nat → Int) (K N A X : Int) (v : Value) (w : World) (h : TwoMem w g d g' d' n G) (hK : 1 ≤ K ∧ K ≤ 11) (hX0 : 0 ≤ X) (hX1 : X < 18446744073709551616) (hx : isWord K X = true) (h0 : 0 ≤ A) (h1 : A < 18446744073709551616) (h2 : A < 4096 ∨ n < A + nbytes K) :
    Calls Try.prog 21 #[.pointer (some ⟨g, 0, none⟩), .pointer (some ⟨g', 0, none⟩), .agg #[.int .i64 1, .int .i64 K, .int .i64 N, .int .u64 A, .int .u64 X, v]] w (OneDone w g d g' d' n) := by
  have H0 := Lib.hid h
  have H := Lib.hid (h.grow ((Below.refl _ _).alloc (Nat.le_refl _) (.cells #[.int .i64 1, .int .i64 K, .int .i64 N, .int .u64 A, .int .u64 X, v] 32)))
  have KB := Lib.hid ((Keep.refl (fun i => i = d ∨ i = d') w).alloc (.cells #[.int .i64 1, .int .i64 K, .int .i64 N, .int .u64 A, .int .u64 X, v] 32))
  clear h
  have hw := Lib.hid (word_yes hK)
  have hk := Lib.hid (nbytes_of hK)
  have hx := Lib.hid hx
  have h2' := Lib.hid h2
  clear hK h2
  go_enter Try.func21, Try.ntmps21
  go_wp2_with (first | (go_at_call 14; refine (store_no g d n _ _ _ _ G _ H.out.m rfl hk.out h0 h1 hX0 hX1 hx.out h2'.out).mono ?_; rintro e w' ⟨rfl, rfl⟩) | (go_at_call 75; refine (rstore_no g' d' n _ _ _ _ G _ H.out.r rfl hk.out h0 h1 h2'.out).mono ?_; rintro e w' ⟨rfl, rfl⟩) | (go_at_call 12; refine (num2 _ _).mono ?_; rintro e w' ⟨rfl, rfl⟩) | (go_at_call 58; refine (ref1_Word_of _ _ _ hw.out).mono ?_; rintro e w' ⟨rfl, rfl⟩) | (go_at_call 74; refine (ref1_Is_of _ _ _ _ hX0 hX1 hx.out).mono ?_; rintro e w' ⟨rfl, rfl⟩))
  go_ret
  exact ⟨rfl, ⟨G, H.out⟩, KB.out⟩

set_option maxHeartbeats 800000 in
set_option maxRecDepth 100000 in
theorem one_store_ok (g d g' d' n : Nat) (G : Nat → Int) (K N A X : Int) (v : Value) (w : World) (h : TwoMem w g d g' d' n G) (hK : 1 ≤ K ∧ K ≤ 11) (hX0 : 0 ≤ X) (hX1 : X < 18446744073709551616) (hx : isWord K X = true) (h1 : 4096 ≤ A) (h2 : A + nbytes K ≤ n) :
    Calls Try.prog 21 #[.pointer (some ⟨g, 0, none⟩), .pointer (some ⟨g', 0, none⟩), .agg #[.int .i64 1, .int .i64 K, .int .i64 N, .int .u64 A, .int .u64 X, v]] w (OneDone w g d g' d' n) := by
  have H0 := Lib.hid h
  have H := Lib.hid (h.grow ((Below.refl _ _).alloc (Nat.le_refl _) (.cells #[.int .i64 1, .int .i64 K, .int .i64 N, .int .u64 A, .int .u64 X, v] 32)))
  have KB := Lib.hid ((Keep.refl (fun i => i = d ∨ i = d') w).alloc (.cells #[.int .i64 1, .int .i64 K, .int .i64 N, .int .u64 A, .int .u64 X, v] 32))
  clear h
  have hw := Lib.hid (word_yes hK)
  have hk := Lib.hid hK
  have hx := Lib.hid hx
  have h2' := Lib.hid h2
  clear hK h2
  go_enter Try.func21, Try.ntmps21
  go_wp2_with fail
  refine (store_any g d n _ _ _ G _ H.out.m hk.out hX0 hX1 hx.out h1 h2'.out).mono ?_
  rintro e w2 ⟨rfl, hm2, hk2⟩
  have hdl := H0.out.m.row.lt
  have q0 := hk2.cell_some (a := ⟨w.heap.size, 0, none⟩) (v := .int .i64 1) (by simp) (by show ¬ w.heap.size = d; omega)
  have q1 := hk2.cell_some (a := ⟨w.heap.size, 1, none⟩) (v := .int .i64 K) (by simp) (by show ¬ w.heap.size = d; omega)
  have q2 := hk2.cell_some (a := ⟨w.heap.size, 2, none⟩) (v := .int .i64 N) (by simp) (by show ¬ w.heap.size = d; omega)
  have q3 := hk2.cell_some (a := ⟨w.heap.size, 3, none⟩) (v := .int .u64 A) (by simp) (by show ¬ w.heap.size = d; omega)
  have q4 := hk2.cell_some (a := ⟨w.heap.size, 4, none⟩) (v := .int .u64 X) (by simp) (by show ¬ w.heap.size = d; omega)
  have M2 := Lib.hid hm2
  have K2 := Lib.hid hk2
  have R2 := Lib.hid (H.out.r.keep hk2 (fun e => H.out.n3 e.symm) (fun e => H.out.n4 e.symm))
  clear hm2 hk2
  go_wp2_with (first | (go_at_call 75; refine (rstore_any g' d' n _ _ _ G _ R2.out hk.out h1 h2'.out).mono ?_; rintro e w3 ⟨rfl, hm3, hk3⟩; have R3 := Lib.hid hm3; have K3 := Lib.hid hk3; clear hm3 hk3) | (go_at_call 12; refine (num2 _ _).mono ?_; rintro e w' ⟨rfl, rfl⟩) | (go_at_call 58; refine (ref1_Word_of _ _ _ hw.out).mono ?_; rintro e w' ⟨rfl, rfl⟩) | (go_at_call 74; refine (ref1_Is_of _ _ _ _ hX0 hX1 hx.out).mono ?_; rintro e w' ⟨rfl, rfl⟩))
  go_ret
  exact ⟨rfl, ⟨_, M2.out.keep K3.out (fun e => H.out.n2 e) (fun e => H.out.n4 e), R3.out, H.out.n1, H.out.n2, H.out.n3, H.out.n4⟩, (KB.out.trans (K2.out.mono fun i e => Or.inl e)).trans (K3.out.mono fun i e => Or.inr e)⟩

end Go.Proofs.Ytekoogedhmhpgaa
