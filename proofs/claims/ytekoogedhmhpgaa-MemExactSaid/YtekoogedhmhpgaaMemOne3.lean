/- The walk of 'one': bytes got and put by both memories. -/
import Derived.Test.YtekoogedhmhpgaaMemOne2
namespace Go.Proofs.Ytekoogedhmhpgaa
open Go.RowKit Go.Proofs.YtekoogedhmhpgaaW.PrintWords

theorem own_C {w : World} {base m c : Nat} {A : Option Addr} {bs : List Int} (h : w.ownsRow base 5 1 (.slice A m c) m (nums .u8 bs)) (hl : bs.length = m) : (Kd.int .u8).C w A bs.length bs := by
  subst hl
  exact (Kd.R_reads' (d := Kd.int .u8) (ok := fun _ => True) (Kd.R_of_own h (fun _ _ => trivial))).2.2
theorem mem_C {w : World} {g d n a m : Nat} {G : Nat → Int} (h : MemAt w g d n G) (ha : a + m ≤ n) : (Kd.int .u8).C w (some ⟨d, a, none⟩) (bytesOfF G a m).length (bytesOfF G a m) := by
  refine ⟨rfl, by have := h.hi; rw [bytesOfF_length]; omega, fun _ => ⟨_, rfl, fun j p hj => ⟨[.int .u8 p], rfl, rfl, fun i u hu => ?_⟩⟩⟩
  have hjm : j < m := by have := (List.getElem?_eq_some_iff.1 hj).1; rwa [bytesOfF_length] at this
  have hi : i = 0 := by have := (List.getElem?_eq_some_iff.1 hu).1; simpa using this
  subst hi
  have hp : p = G (a + j) := by simp [bytesOfF, hjm] at hj; exact hj.symm
  have hu' : u = .int .u8 p := by simpa using hu.symm
  subst hu' hp
  rw [show (Kd.int .u8).sz = 1 from rfl, Nat.mul_one, Nat.add_zero, add_off]
  exact h.row.cell (by omega)
theorem eqm {A B : Option Addr} {c c' m : Nat} {l : List Int} {w : World} (h : ∀ wq, (Kd.int .u8).C wq A l.length l → l.length ≤ c → (Kd.int .u8).C wq B l.length l → l.length ≤ c' →
      Calls Try.prog 23 #[.slice A l.length c, .slice B l.length c'] wq fun e w' => e = .returned (.bool true) ∧ Drawn0 wq w') (hl : l.length = m)
    (h1 : (Kd.int .u8).C w A l.length l) (h2 : (Kd.int .u8).C w B l.length l) (h3 : m ≤ c) (h4 : m ≤ c') :
    Calls Try.prog 23 #[.slice A m c, .slice B m c'] w fun e w' => e = .returned (.bool true) ∧ ∃ k, w' = w.drewN k := by
  subst hl
  exact (h w h1 h3 h2 h4).mono fun e w' ⟨he, hd⟩ => ⟨he, hd.out⟩

set_option maxHeartbeats 800000 in
set_option maxRecDepth 100000 in
theorem one_get_neg (g d g' d' n : Nat) (G : Nat → Int) (K N A X : Int) (v : Value) (w : World) (h : TwoMem w g d g' d' n G) (hN0 : -9223372036854775808 ≤ N) (hN : N < 0) (h0 : 0 ≤ A) (h1 : A < 18446744073709551616) :
    Calls Try.prog 21 #[.pointer (some ⟨g, 0, none⟩), .pointer (some ⟨g', 0, none⟩), .agg #[.int .i64 2, .int .i64 K, .int .i64 N, .int .u64 A, .int .u64 X, v]] w (OneDone w g d g' d' n) := by
  have H0 := Lib.hid h
  have B0 := Lib.hid ((Below.refl w.heap.size w).alloc (Nat.le_refl _) (.cells #[.int .i64 2, .int .i64 K, .int .i64 N, .int .u64 A, .int .u64 X, v] 32))
  have H := Lib.hid (h.grow B0.out)
  have KB := Lib.hid ((Keep.refl (fun i => i = d ∨ i = d') w).alloc (.cells #[.int .i64 2, .int .i64 K, .int .i64 N, .int .u64 A, .int .u64 X, v] 32))
  clear h
  go_enter Try.func21, Try.ntmps21
  go_wp2_with (first | (go_at_call 22; refine (get_no g d n _ _ G _ H.out.m h0 h1 hN0 (by omega) (Or.inl hN)).mono ?_; rintro e w' ⟨rfl, rfl⟩) | (go_at_call 12; refine (num2 _ _).mono ?_; rintro e w' ⟨rfl, rfl⟩))
  go_ret
  exact ⟨rfl, ⟨G, H.out⟩, KB.out⟩

set_option maxHeartbeats 800000 in
set_option maxRecDepth 100000 in
theorem one_get_no (g d g' d' n : Nat) (G : Nat → Int) (K N A X : Int) (v : Value) (w : World) (h : TwoMem w g d g' d' n G) (hN0 : 0 < N) (hN : N ≤ 9223372036854775807) (h0 : 0 ≤ A) (h1 : A < 18446744073709551616) (hf : A < 4096 ∨ n < A + N) :
    Calls Try.prog 21 #[.pointer (some ⟨g, 0, none⟩), .pointer (some ⟨g', 0, none⟩), .agg #[.int .i64 2, .int .i64 K, .int .i64 N, .int .u64 A, .int .u64 X, v]] w (OneDone w g d g' d' n) := by
  have hf' := Lib.hid hf
  clear hf
  have H0 := Lib.hid h
  have B0 := Lib.hid ((Below.refl w.heap.size w).alloc (Nat.le_refl _) (.cells #[.int .i64 2, .int .i64 K, .int .i64 N, .int .u64 A, .int .u64 X, v] 32))
  have H := Lib.hid (h.grow B0.out)
  have KB := Lib.hid ((Keep.refl (fun i => i = d ∨ i = d') w).alloc (.cells #[.int .i64 2, .int .i64 K, .int .i64 N, .int .u64 A, .int .u64 X, v] 32))
  clear h
  go_enter Try.func21, Try.ntmps21
  go_wp2_with (first | (go_at_call 22; refine (get_no g d n _ _ G _ H.out.m h0 h1 (by omega) (by omega) (Or.inr ⟨hN0, hf'.out⟩)).mono ?_; rintro e w' ⟨rfl, rfl⟩) | (go_at_call 76; refine (has_no g' d' n _ _ G _ H.out.r h1 h0 (by omega) (by omega) (Or.inr ⟨hN0, hf'.out⟩)).mono ?_; rintro e w' ⟨rfl, rfl⟩) | (go_at_call 12; refine (num2 _ _).mono ?_; rintro e w' ⟨rfl, rfl⟩))
  go_ret
  exact ⟨rfl, ⟨G, H.out⟩, KB.out⟩

set_option maxHeartbeats 800000 in
set_option maxRecDepth 100000 in
theorem one_get_zero (g d g' d' n : Nat) (G : Nat → Int) (K A X : Int) (v : Value) (w : World) (h : TwoMem w g d g' d' n G) (h0 : 0 ≤ A) (h1 : A < 18446744073709551616) :
    Calls Try.prog 21 #[.pointer (some ⟨g, 0, none⟩), .pointer (some ⟨g', 0, none⟩), .agg #[.int .i64 2, .int .i64 K, .int .i64 0, .int .u64 A, .int .u64 X, v]] w (OneDone w g d g' d' n) := by
  have H0 := Lib.hid h
  have B0 := Lib.hid ((Below.refl w.heap.size w).alloc (Nat.le_refl _) (.cells #[.int .i64 2, .int .i64 K, .int .i64 0, .int .u64 A, .int .u64 X, v] 32))
  have H := Lib.hid (h.grow B0.out)
  have KB := Lib.hid ((Keep.refl (fun i => i = d ∨ i = d') w).alloc (.cells #[.int .i64 2, .int .i64 K, .int .i64 0, .int .u64 A, .int .u64 X, v] 32))
  clear h
  go_enter Try.func21, Try.ntmps21
  go_wp2_with (first | (go_at_call 22; refine (get_zero g _ _).mono ?_; rintro e w' ⟨rfl, rfl⟩) | (go_at_call 76; refine (has_yes g' d' n _ _ G _ H.out.r h1 h0 (by omega) (Or.inl rfl)).mono ?_; rintro e w' ⟨rfl, rfl⟩) | (go_at_call 12; refine (num2 _ _).mono ?_; rintro e w' ⟨rfl, rfl⟩))
  go_quiet ((go_at_call 12; exact quiet_eq (num2 _ _)))
  go_wp2_with fail
  refine (law0Bytes_ok _ [] w.heap.size _ (by simp) (by exact B0.out.size) (own_nil _ _ _ _)).mono ?_
  rintro e w2 ⟨rfl, hk2⟩
  have K2 := Lib.hid (hk2.mono (T := fun _ => False) (fun i hi => by simp [Value.ownBlock] at hi))
  clear hk2
  go_wp2
  go_ret
  exact ⟨rfl, ⟨G, (H.out.keep (S := fun _ => False) ((Keep.refl _ _).drewN _) (fun f => f) (fun f => f) (fun f => f) (fun f => f)).keep K2.out (fun f => f) (fun f => f) (fun f => f) (fun f => f)⟩, (KB.out.drewN _).trans (K2.out.mono (fun i f => f.elim))⟩

set_option maxHeartbeats 800000 in
set_option maxRecDepth 100000 in
theorem one_get_ok (g d g' d' n : Nat) (G : Nat → Int) (a m : Nat) (K X : Int) (v : Value) (w : World) (h : TwoMem w g d g' d' n G) (hm : 1 ≤ m) (h1 : 4096 ≤ a) (h2 : a + m ≤ n) :
    Calls Try.prog 21 #[.pointer (some ⟨g, 0, none⟩), .pointer (some ⟨g', 0, none⟩), .agg #[.int .i64 2, .int .i64 K, .int .i64 (m : Int), .int .u64 (a : Int), .int .u64 X, v]] w (OneDone w g d g' d' n) := by
  have H0 := Lib.hid h
  have B0 := Lib.hid ((Below.refl w.heap.size w).alloc (Nat.le_refl _) (.cells #[.int .i64 2, .int .i64 K, .int .i64 (m : Int), .int .u64 (a : Int), .int .u64 X, v] 32))
  have H := Lib.hid (h.grow B0.out)
  have KB := Lib.hid ((Keep.refl (fun i => i = d ∨ i = d') w).alloc (.cells #[.int .i64 2, .int .i64 K, .int .i64 (m : Int), .int .u64 (a : Int), .int .u64 X, v] 32))
  clear h
  have hn := H.out.m.hi
  go_enter Try.func21, Try.ntmps21
  go_wp2_with fail
  refine (get_ok g d n a m G _ H.out.m hm h1 h2).mono ?_
  rintro e w2 ⟨u, rfl, ho, hb⟩
  obtain ⟨Ad, cp, rfl⟩ := own_slice ho
  have q0 := pw_cell_below hb (a := ⟨w.heap.size, 0, none⟩) (v := .int .i64 2) (by simp)
  have q2 := pw_cell_below hb (a := ⟨w.heap.size, 2, none⟩) (v := .int .i64 m) (by simp)
  have q3 := pw_cell_below hb (a := ⟨w.heap.size, 3, none⟩) (v := .int .u64 a) (by simp)
  have O := Lib.hid ho
  have H2 := Lib.hid (H.out.grow hb)
  have B2 := Lib.hid (B0.out.trans (hb.mono (B' := w.heap.size) (by simp)))
  have KB2 := Lib.hid (KB.out.trans (Keep.of_below hb))
  clear ho hb
  have hc' := H2.out.r.cell
  have hz : ((m : Int) == 0) = false := by rw [beq_eq_false_iff_ne]; omega
  go_wp2_with (first | (go_at_call 76; refine (has_yes g' d' n _ _ G _ H2.out.r (by omega) (by omega) (by omega) (Or.inr ⟨by omega, by omega, by omega⟩)).mono ?_; rintro e w' ⟨rfl, rfl⟩) | (go_at_call 12; refine (num2 _ _).mono ?_; rintro e w' ⟨rfl, rfl⟩))
  have hbl : (bytesOfF G a m).length = m := bytesOfF_length G a m
  have HE := Lib.hid (fun wq => eqBytes_ok Ad (some ⟨d', a, none⟩) cp (n - a) (bytesOfF G a m) wq (by omega))
  have C1 := Lib.hid (own_C O.out hbl)
  have C2 := Lib.hid (mem_C H2.out.r (a := a) (m := m) (by omega))
  have HL := Lib.hid hbl
  have hcap := own_cap O.out
  go_quiet ((first | (go_at_call 12; exact quiet_eq (num2 _ _)) | (go_at_call 23; exact Calls.quiet_of ((eqm HE.out HL.out (Kd.C_below C1.out (pw_below_drewN (Below.refl _ _) _)) (Kd.C_below C2.out (pw_below_drewN (Below.refl _ _) _)) hcap (by omega))))))
  go_wp2_with fail
  refine (law0Bytes_ok _ (bytesOfF G a m) w.heap.size _ (by omega) (by exact B2.out.size) (by rw [HL.out]; exact pw_own_drewN (own_less O.out (by simp)) _)).mono ?_
  rintro e w3 ⟨rfl, hk3⟩
  have hne : ∀ i, (Value.slice Ad m cp).ownBlock = some i → w.heap.size + 1 ≤ i := fun i hi => by have := own_base O.out i hi; simpa using this
  have l1 := H0.out.m.lt
  have l2 := H0.out.m.row.lt
  have l3 := H0.out.r.lt
  have l4 := H0.out.r.row.lt
  have H3 := Lib.hid ((H2.out.keep (S := fun _ => False) ((Keep.refl _ _).drewN _) (fun f => f) (fun f => f) (fun f => f) (fun f => f)).keep hk3 (fun e => by have := hne _ e; omega) (fun e => by have := hne _ e; omega) (fun e => by have := hne _ e; omega) (fun e => by have := hne _ e; omega))
  have K3 := Lib.hid ((KB2.out.drewN _).trans' hk3 (fun i hi e => by have := hne _ e; omega))
  clear hk3 hne
  go_wp2
  go_ret
  exact ⟨rfl, ⟨G, H3.out⟩, K3.out⟩

set_option maxHeartbeats 800000 in
set_option maxRecDepth 100000 in
theorem one_put_no (g d g' d' n : Nat) (G : Nat → Int) (D K N A X : Int) (Ab : Option Addr) (cb : Nat) (bs : List Int) (w : World) (h : TwoMem w g d g' d' n G) (hD : D ≠ 0 ∧ D ≠ 1 ∧ D ≠ 2) (h0 : 0 ≤ A) (h1 : A < 18446744073709551616) (hC : (Kd.int .u8).C w Ab bs.length bs) (hcb : bs.length ≤ cb) (hlen : bs.length ≤ 4000) (hby : ∀ x ∈ bs, 0 ≤ x ∧ x ≤ 255) (had : 0 < bs.length → ∀ ad, Ab = some ad → ad.block < w.heap.size ∧ ad.block ≠ d ∧ ad.block ≠ d') (hm : 0 < bs.length) (hf : A < 4096 ∨ n < A + bs.length) :
    Calls Try.prog 21 #[.pointer (some ⟨g, 0, none⟩), .pointer (some ⟨g', 0, none⟩), .agg #[.int .i64 D, .int .i64 K, .int .i64 N, .int .u64 A, .int .u64 X, .slice Ab bs.length cb]] w (OneDone w g d g' d' n) := by
  have hD0 : (D == 0) = false := by rw [beq_eq_false_iff_ne]; omega
  have hD1 : (D == 1) = false := by rw [beq_eq_false_iff_ne]; omega
  have hD2 : (D == 2) = false := by rw [beq_eq_false_iff_ne]; omega
  have C0 := Lib.hid (Kd.C_below hC ((Below.refl w.heap.size w).alloc (Nat.le_refl _) (.cells #[.int .i64 D, .int .i64 K, .int .i64 N, .int .u64 A, .int .u64 X, .slice Ab bs.length cb] 32)))
  have HBY := Lib.hid hby
  have HAD := Lib.hid had
  clear hD hC hby had
  have H0 := Lib.hid h
  have B0 := Lib.hid ((Below.refl w.heap.size w).alloc (Nat.le_refl _) (.cells #[.int .i64 D, .int .i64 K, .int .i64 N, .int .u64 A, .int .u64 X, .slice Ab bs.length cb] 32))
  have H := Lib.hid (h.grow B0.out)
  have KB := Lib.hid ((Keep.refl (fun i => i = d ∨ i = d') w).alloc (.cells #[.int .i64 D, .int .i64 K, .int .i64 N, .int .u64 A, .int .u64 X, .slice Ab bs.length cb] 32))
  clear h
  go_enter Try.func21, Try.ntmps21
  go_wp2_with fail
  refine (copyBytes_ok Ab cb bs _ (by omega) C0.out hcb).mono ?_
  rintro e w2 ⟨u, rfl, ho, hb⟩
  obtain ⟨Ad, cp, rfl⟩ := own_slice ho
  have q3 := pw_cell_below hb (a := ⟨w.heap.size, 3, none⟩) (v := .int .u64 A) (by simp)
  have q5 := pw_cell_below hb (a := ⟨w.heap.size, 5, none⟩) (v := .slice Ab bs.length cb) (by simp)
  have hne : ∀ i, (Value.slice Ad bs.length cp).ownBlock = some i → w.heap.size + 1 ≤ i := fun i hi => by have := own_base ho i hi; simpa using this
  have NE := Lib.hid hne
  have O := Lib.hid ho
  have H2 := Lib.hid (H.out.grow hb)
  have B2 := Lib.hid (B0.out.trans (hb.mono (B' := w.heap.size) (by simp)))
  have KB2 := Lib.hid (KB.out.trans (Keep.of_below hb))
  have C2 := Lib.hid (Kd.C_below C0.out hb)
  clear ho hb hne
  have hcap := own_cap O.out
  have l1 := H0.out.m.lt
  have l2 := H0.out.m.row.lt
  have l3 := H0.out.r.lt
  have l4 := H0.out.r.row.lt
  go_wp2_with fail
  have HF := Lib.hid hf
  clear hf
  refine (put_no g d n bs.length cp A Ad G _ H2.out.m h0 h1 (by omega) hm HF.out).mono ?_
  rintro e w' ⟨rfl, rfl⟩
  go_wp2_with (first | (go_at_call 12; refine (num2 _ _).mono ?_; rintro e w' ⟨rfl, rfl⟩) | (go_at_call 23; refine (eqBytes_ok _ _ _ _ bs _ (by omega) (own_C O.out rfl) hcap C2.out hcb).mono ?_; rintro e w3 ⟨rfl, hd⟩; obtain ⟨nq, rfl⟩ := hd.out; clear hd))
  refine (law0Bytes_ok _ bs w.heap.size _ (by omega) (by exact B2.out.size) (pw_own_drewN (own_less O.out (by simp)) _)).mono ?_
  rintro e w4 ⟨rfl, hk4⟩
  have q3 := hk4.cell_some (a := ⟨w.heap.size, 3, none⟩) (v := .int .u64 A) q3 (fun e => absurd (NE.out _ e) (by show ¬ w.heap.size + 1 ≤ w.heap.size; omega))
  have q5 := hk4.cell_some (a := ⟨w.heap.size, 5, none⟩) (v := .slice Ab bs.length cb) q5 (fun e => absurd (NE.out _ e) (by show ¬ w.heap.size + 1 ≤ w.heap.size; omega))
  have H4 := Lib.hid ((H2.out.keep (S := fun _ => False) ((Keep.refl _ _).drewN nq) (fun f => f) (fun f => f) (fun f => f) (fun f => f)).keep hk4 (fun e => by have := NE.out _ e; omega) (fun e => by have := NE.out _ e; omega) (fun e => by have := NE.out _ e; omega) (fun e => by have := NE.out _ e; omega))
  have K4 := Lib.hid ((KB2.out.drewN nq).trans' hk4 (fun i hi e => by have := NE.out _ e; omega))
  clear hk4
  go_wp2_with (go_at_call 76; refine (has_no g' d' n _ _ G _ H4.out.r h1 h0 (by omega) (by omega) (Or.inr ⟨by omega, by have := HF.out; omega⟩)).mono ?_; rintro e w' ⟨rfl, rfl⟩)
  go_ret
  exact ⟨rfl, ⟨G, H4.out⟩, K4.out⟩

set_option maxHeartbeats 800000 in
set_option maxRecDepth 100000 in
theorem one_put_zero (g d g' d' n : Nat) (G : Nat → Int) (a : Nat) (D K N X : Int) (Ab : Option Addr) (cb : Nat) (bs : List Int) (w : World) (h : TwoMem w g d g' d' n G) (hD : D ≠ 0 ∧ D ≠ 1 ∧ D ≠ 2) (h1 : (a : Int) < 18446744073709551616) (hC : (Kd.int .u8).C w Ab bs.length bs) (hcb : bs.length ≤ cb) (hlen : bs.length ≤ 4000) (hby : ∀ x ∈ bs, 0 ≤ x ∧ x ≤ 255) (had : 0 < bs.length → ∀ ad, Ab = some ad → ad.block < w.heap.size ∧ ad.block ≠ d ∧ ad.block ≠ d') (hz : bs.length = 0) :
    Calls Try.prog 21 #[.pointer (some ⟨g, 0, none⟩), .pointer (some ⟨g', 0, none⟩), .agg #[.int .i64 D, .int .i64 K, .int .i64 N, .int .u64 (a : Int), .int .u64 X, .slice Ab bs.length cb]] w (OneDone w g d g' d' n) := by
  have hD0 : (D == 0) = false := by rw [beq_eq_false_iff_ne]; omega
  have hD1 : (D == 1) = false := by rw [beq_eq_false_iff_ne]; omega
  have hD2 : (D == 2) = false := by rw [beq_eq_false_iff_ne]; omega
  have C0 := Lib.hid (Kd.C_below hC ((Below.refl w.heap.size w).alloc (Nat.le_refl _) (.cells #[.int .i64 D, .int .i64 K, .int .i64 N, .int .u64 (a : Int), .int .u64 X, .slice Ab bs.length cb] 32)))
  have HBY := Lib.hid hby
  have HAD := Lib.hid had
  clear hD hC hby had
  have HZ := Lib.hid hz
  have hzb : ((bs.length : Int) == 0) = true := by rw [hz]; rfl
  have HZB := Lib.hid hzb
  clear hz hzb
  have H0 := Lib.hid h
  have B0 := Lib.hid ((Below.refl w.heap.size w).alloc (Nat.le_refl _) (.cells #[.int .i64 D, .int .i64 K, .int .i64 N, .int .u64 (a : Int), .int .u64 X, .slice Ab bs.length cb] 32))
  have H := Lib.hid (h.grow B0.out)
  have KB := Lib.hid ((Keep.refl (fun i => i = d ∨ i = d') w).alloc (.cells #[.int .i64 D, .int .i64 K, .int .i64 N, .int .u64 (a : Int), .int .u64 X, .slice Ab bs.length cb] 32))
  clear h
  go_enter Try.func21, Try.ntmps21
  go_wp2_with fail
  refine (copyBytes_ok Ab cb bs _ (by omega) C0.out hcb).mono ?_
  rintro e w2 ⟨u, rfl, ho, hb⟩
  obtain ⟨Ad, cp, rfl⟩ := own_slice ho
  have q3 := pw_cell_below hb (a := ⟨w.heap.size, 3, none⟩) (v := .int .u64 (a : Int)) (by simp)
  have q5 := pw_cell_below hb (a := ⟨w.heap.size, 5, none⟩) (v := .slice Ab bs.length cb) (by simp)
  have hne : ∀ i, (Value.slice Ad bs.length cp).ownBlock = some i → w.heap.size + 1 ≤ i := fun i hi => by have := own_base ho i hi; simpa using this
  have NE := Lib.hid hne
  have O := Lib.hid ho
  have H2 := Lib.hid (H.out.grow hb)
  have B2 := Lib.hid (B0.out.trans (hb.mono (B' := w.heap.size) (by simp)))
  have KB2 := Lib.hid (KB.out.trans (Keep.of_below hb))
  have C2 := Lib.hid (Kd.C_below C0.out hb)
  clear ho hb hne
  have hcap := own_cap O.out
  have l1 := H0.out.m.lt
  have l2 := H0.out.m.row.lt
  have l3 := H0.out.r.lt
  have l4 := H0.out.r.row.lt
  go_wp2_with fail
  refine (put_zero' g bs.length a Ad cp _ HZ.out).mono ?_
  rintro e w' ⟨rfl, rfl⟩
  go_wp2_with (first | (go_at_call 12; refine (num2 _ _).mono ?_; rintro e w' ⟨rfl, rfl⟩) | (go_at_call 23; refine (eqBytes_ok _ _ _ _ bs _ (by omega) (own_C O.out rfl) hcap C2.out hcb).mono ?_; rintro e w3 ⟨rfl, hd⟩; obtain ⟨nq, rfl⟩ := hd.out; clear hd))
  refine (law0Bytes_ok _ bs w.heap.size _ (by omega) (by exact B2.out.size) (pw_own_drewN (own_less O.out (by simp)) _)).mono ?_
  rintro e w4 ⟨rfl, hk4⟩
  have q3 := hk4.cell_some (a := ⟨w.heap.size, 3, none⟩) (v := .int .u64 (a : Int)) q3 (fun e => absurd (NE.out _ e) (by show ¬ w.heap.size + 1 ≤ w.heap.size; omega))
  have q5 := hk4.cell_some (a := ⟨w.heap.size, 5, none⟩) (v := .slice Ab bs.length cb) q5 (fun e => absurd (NE.out _ e) (by show ¬ w.heap.size + 1 ≤ w.heap.size; omega))
  have H4 := Lib.hid ((H2.out.keep (S := fun _ => False) ((Keep.refl _ _).drewN nq) (fun f => f) (fun f => f) (fun f => f) (fun f => f)).keep hk4 (fun e => by have := NE.out _ e; omega) (fun e => by have := NE.out _ e; omega) (fun e => by have := NE.out _ e; omega) (fun e => by have := NE.out _ e; omega))
  have K4 := Lib.hid ((KB2.out.drewN nq).trans' hk4 (fun i hi e => by have := NE.out _ e; omega))
  clear hk4
  go_wp2_with (go_at_call 76; refine (has_yes g' d' n _ _ G _ H4.out.r h1 (by omega) (by omega) (Or.inl (by have := HZ.out; omega))).mono ?_; rintro e w' ⟨rfl, rfl⟩)
  refine (rput_ok g' d' n a cb Ab bs G _ H4.out.r (by have := HZ.out; exact bytes_none this) HBY.out (fun hp ad he => (HAD.out hp ad he).2.2) (fun hp => by have := HZ.out; omega) (by omega) (by omega)).mono ?_
  rintro e w5 ⟨rfl, hm5, hk5⟩
  have M5 := Lib.hid (H4.out.m.keep hk5 (fun e => H4.out.n2 e) (fun e => H4.out.n4 e))
  have R5 := Lib.hid (show MemAt w5 g' d' n G by have hz := HZ.out; rw [List.eq_nil_of_length_eq_zero hz, poked_nil] at hm5; exact hm5)
  have K5 := Lib.hid (K4.out.trans (hk5.mono (T := fun i => i = d ∨ i = d') (fun i e => Or.inr e)))
  clear hm5 hk5
  go_wp2
  go_ret
  exact ⟨rfl, ⟨G, M5.out, R5.out, H4.out.n1, H4.out.n2, H4.out.n3, H4.out.n4⟩, K5.out⟩

set_option maxHeartbeats 800000 in
set_option maxRecDepth 100000 in
theorem one_put_ok (g d g' d' n : Nat) (G : Nat → Int) (a : Nat) (D K N X : Int) (Ab : Option Addr) (cb : Nat) (bs : List Int) (w : World) (h : TwoMem w g d g' d' n G) (hD : D ≠ 0 ∧ D ≠ 1 ∧ D ≠ 2) (h1 : (a : Int) < 18446744073709551616) (hC : (Kd.int .u8).C w Ab bs.length bs) (hcb : bs.length ≤ cb) (hlen : bs.length ≤ 4000) (hby : ∀ x ∈ bs, 0 ≤ x ∧ x ≤ 255) (had : 0 < bs.length → ∀ ad, Ab = some ad → ad.block < w.heap.size ∧ ad.block ≠ d ∧ ad.block ≠ d') (hm : 1 ≤ bs.length) (h2 : 4096 ≤ a) (h3 : a + bs.length ≤ n) :
    Calls Try.prog 21 #[.pointer (some ⟨g, 0, none⟩), .pointer (some ⟨g', 0, none⟩), .agg #[.int .i64 D, .int .i64 K, .int .i64 N, .int .u64 (a : Int), .int .u64 X, .slice Ab bs.length cb]] w (OneDone w g d g' d' n) := by
  have hD0 : (D == 0) = false := by rw [beq_eq_false_iff_ne]; omega
  have hD1 : (D == 1) = false := by rw [beq_eq_false_iff_ne]; omega
  have hD2 : (D == 2) = false := by rw [beq_eq_false_iff_ne]; omega
  have C0 := Lib.hid (Kd.C_below hC ((Below.refl w.heap.size w).alloc (Nat.le_refl _) (.cells #[.int .i64 D, .int .i64 K, .int .i64 N, .int .u64 (a : Int), .int .u64 X, .slice Ab bs.length cb] 32)))
  have HBY := Lib.hid hby
  have HAD := Lib.hid had
  clear hD hC hby had
  have H0 := Lib.hid h
  have B0 := Lib.hid ((Below.refl w.heap.size w).alloc (Nat.le_refl _) (.cells #[.int .i64 D, .int .i64 K, .int .i64 N, .int .u64 (a : Int), .int .u64 X, .slice Ab bs.length cb] 32))
  have H := Lib.hid (h.grow B0.out)
  have KB := Lib.hid ((Keep.refl (fun i => i = d ∨ i = d') w).alloc (.cells #[.int .i64 D, .int .i64 K, .int .i64 N, .int .u64 (a : Int), .int .u64 X, .slice Ab bs.length cb] 32))
  clear h
  go_enter Try.func21, Try.ntmps21
  go_wp2_with fail
  refine (copyBytes_ok Ab cb bs _ (by omega) C0.out hcb).mono ?_
  rintro e w2 ⟨u, rfl, ho, hb⟩
  obtain ⟨Ad, cp, rfl⟩ := own_slice ho
  have q3 := pw_cell_below hb (a := ⟨w.heap.size, 3, none⟩) (v := .int .u64 (a : Int)) (by simp)
  have q5 := pw_cell_below hb (a := ⟨w.heap.size, 5, none⟩) (v := .slice Ab bs.length cb) (by simp)
  have hne : ∀ i, (Value.slice Ad bs.length cp).ownBlock = some i → w.heap.size + 1 ≤ i := fun i hi => by have := own_base ho i hi; simpa using this
  have NE := Lib.hid hne
  have O := Lib.hid ho
  have H2 := Lib.hid (H.out.grow hb)
  have B2 := Lib.hid (B0.out.trans (hb.mono (B' := w.heap.size) (by simp)))
  have KB2 := Lib.hid (KB.out.trans (Keep.of_below hb))
  have C2 := Lib.hid (Kd.C_below C0.out hb)
  clear ho hb hne
  have hcap := own_cap O.out
  have l1 := H0.out.m.lt
  have l2 := H0.out.m.row.lt
  have l3 := H0.out.r.lt
  have l4 := H0.out.r.row.lt
  go_wp2_with fail
  refine (put_ok g d n a cp Ad bs G _ H2.out.m (own_C O.out rfl) HBY.out hm h2 h3).mono ?_
  rintro e w3 ⟨rfl, hm3, hk3⟩
  have hdl := H0.out.m.row.lt
  have q3 := hk3.cell_some (a := ⟨w.heap.size, 3, none⟩) (v := .int .u64 a) q3 (by show ¬ w.heap.size = d; omega)
  have q5 := hk3.cell_some (a := ⟨w.heap.size, 5, none⟩) (v := .slice Ab bs.length cb) q5 (by show ¬ w.heap.size = d; omega)
  have O3 := Lib.hid (own_move O.out (w1 := w3) (fun i hi => hk3.block i (own_lt O.out i hi) (fun e => by have := NE.out i hi; omega)))
  have C3 := Lib.hid (bytesAt_keep C2.out hk3 (fun hp ad he => (HAD.out hp ad he).2.1))
  have M3 := Lib.hid hm3
  have R3 := Lib.hid (H2.out.r.keep hk3 (fun e => H2.out.n3 e.symm) (fun e => H2.out.n4 e.symm))
  have K3 := Lib.hid (KB2.out.trans (hk3.mono (T := fun i => i = d ∨ i = d') (fun i e => Or.inl e)))
  clear hm3 hk3
  go_wp2_with (first | (go_at_call 12; refine (num2 _ _).mono ?_; rintro e w' ⟨rfl, rfl⟩) | (go_at_call 23; refine (eqBytes_ok _ _ _ _ bs _ (by omega) (own_C O3.out rfl) hcap C3.out hcb).mono ?_; rintro e w3 ⟨rfl, hd⟩; obtain ⟨nq, rfl⟩ := hd.out; clear hd))
  refine (law0Bytes_ok _ bs w.heap.size _ (by omega) (by exact K3.out.size) (pw_own_drewN (own_less O3.out (by simp)) _)).mono ?_
  rintro e w4 ⟨rfl, hk4⟩
  have q3 := hk4.cell_some (a := ⟨w.heap.size, 3, none⟩) (v := .int .u64 a) q3 (fun e => absurd (NE.out _ e) (by show ¬ w.heap.size + 1 ≤ w.heap.size; omega))
  have q5 := hk4.cell_some (a := ⟨w.heap.size, 5, none⟩) (v := .slice Ab bs.length cb) q5 (fun e => absurd (NE.out _ e) (by show ¬ w.heap.size + 1 ≤ w.heap.size; omega))
  have M4 := Lib.hid ((M3.out.keep (S := fun _ => False) ((Keep.refl _ _).drewN nq) (fun f => f) (fun f => f)).keep hk4 (fun e => by have := NE.out _ e; omega) (fun e => by have := NE.out _ e; omega))
  have R4 := Lib.hid ((R3.out.keep (S := fun _ => False) ((Keep.refl _ _).drewN nq) (fun f => f) (fun f => f)).keep hk4 (fun e => by have := NE.out _ e; omega) (fun e => by have := NE.out _ e; omega))
  have K4 := Lib.hid ((K3.out.drewN nq).trans' hk4 (fun i hi e => by have := NE.out _ e; omega))
  have C4 := Lib.hid (bytesAt_keep (S := fun i => w.heap.size + 1 ≤ i) (Kd.C_below C3.out (pw_below_drewN (Below.refl _ _) nq)) (hk4.mono (fun i e => NE.out i e)) (fun hp ad he => by have := (HAD.out hp ad he).1; show ¬ (w.heap.size + 1 ≤ ad.block); omega))
  clear hk4
  go_wp2_with (go_at_call 76; refine (has_yes g' d' n _ _ G _ R4.out h1 (by omega) (by omega) (Or.inr ⟨by omega, by omega, by omega⟩)).mono ?_; rintro e w' ⟨rfl, rfl⟩)
  refine (rput_ok g' d' n a cb Ab bs G _ R4.out C4.out HBY.out (fun hp ad he => (HAD.out hp ad he).2.2) (fun _ => ⟨h2, h3⟩) (by omega) (by omega)).mono ?_
  rintro e w5 ⟨rfl, hm5, hk5⟩
  have M5 := Lib.hid (M4.out.keep hk5 (fun e => H0.out.n2 e) (fun e => H0.out.n4 e))
  have R5 := Lib.hid hm5
  have K5 := Lib.hid (K4.out.trans (hk5.mono (T := fun i => i = d ∨ i = d') (fun i e => Or.inr e)))
  clear hm5 hk5
  go_wp2_with (go_at_call 12; refine (num2 _ _).mono ?_; rintro e w' ⟨rfl, rfl⟩)
  go_ret
  exact ⟨rfl, ⟨_, M5.out, R5.out, H0.out.n1, H0.out.n2, H0.out.n3, H0.out.n4⟩, K5.out⟩

end Go.Proofs.Ytekoogedhmhpgaa
