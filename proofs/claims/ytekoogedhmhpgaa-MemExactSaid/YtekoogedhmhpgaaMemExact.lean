/- The walk of the law MemExact. -/
import Derived.Test.YtekoogedhmhpgaaMemOne3
namespace Go.Proofs.Ytekoogedhmhpgaa
open Go.RowKit Go.Proofs.YtekoogedhmhpgaaW.PrintWords

theorem one_any (g d g' d' n : Nat) (G : Nat → Int) (x : S32) (A5 : Option Addr) (c5 : Nat) (w : World) (h : TwoMem w g d g' d' n G) (hx : OpWf x) (hlen : x.f5.length ≤ 4000) (hC : (Kd.int .u8).C w A5 x.f5.length x.f5) (hc : x.f5.length ≤ c5) (had : 0 < x.f5.length → ∀ ad, A5 = some ad → ad.block < w.heap.size ∧ ad.block ≠ d ∧ ad.block ≠ d') :
    Calls Try.prog 21 #[.pointer (some ⟨g, 0, none⟩), .pointer (some ⟨g', 0, none⟩), .agg #[.int .i64 x.f0, .int .i64 x.f1, .int .i64 x.f2, .int .u64 x.f3, .int .u64 x.f4, .slice A5 x.f5.length c5]] w (OneDone w g d g' d' n) := by
  obtain ⟨D, K, N, A, X, bs⟩ := x
  obtain ⟨hD, hK, hN, hA, hX, hB, hL⟩ := hx
  simp only at *
  by_cases h0 : D = 0
  · subst h0
    by_cases hk : 1 ≤ K ∧ K ≤ 11
    · by_cases hf : 4096 ≤ A ∧ A + nbytes K ≤ n
      · exact one_load_ok g d g' d' n G K N A X _ w h hk hf.1 hf.2
      · exact one_load_no g d g' d' n G K N A X _ w h hk hA.1 hA.2 (by omega)
    · exact one_load_kind g d g' d' n G K N A X _ w h hk
  · by_cases h1 : D = 1
    · subst h1
      by_cases hk : 1 ≤ K ∧ K ≤ 11
      · cases hw : isWord K X with
        | false => exact one_store_form g d g' d' n G K N A X _ w h hk hX.1 hX.2 hw
        | true =>
          by_cases hf : 4096 ≤ A ∧ A + nbytes K ≤ n
          · exact one_store_ok g d g' d' n G K N A X _ w h hk hX.1 hX.2 hw hf.1 hf.2
          · exact one_store_no g d g' d' n G K N A X _ w h hk hX.1 hX.2 hw hA.1 hA.2 (by omega)
      · exact one_store_kind g d g' d' n G K N A X _ w h hk
    · by_cases h2 : D = 2
      · subst h2
        by_cases hn : N < 0
        · exact one_get_neg g d g' d' n G K N A X _ w h hN.1 hn hA.1 hA.2
        · by_cases hz : N = 0
          · subst hz
            exact one_get_zero g d g' d' n G K A X _ w h hA.1 hA.2
          · by_cases hf : 4096 ≤ A ∧ A + N ≤ n
            · obtain ⟨m, rfl⟩ : ∃ m : Nat, N = m := ⟨N.toNat, by omega⟩
              obtain ⟨a, rfl⟩ : ∃ a : Nat, A = a := ⟨A.toNat, by omega⟩
              exact one_get_ok g d g' d' n G a m K X _ w h (by omega) (by omega) (by omega)
            · exact one_get_no g d g' d' n G K N A X _ w h (by omega) hN.2 hA.1 hA.2 (by omega)
      · by_cases hz : bs.length = 0
        · obtain ⟨a, rfl⟩ : ∃ a : Nat, A = a := ⟨A.toNat, by omega⟩
          exact one_put_zero g d g' d' n G a D K N X A5 c5 bs w h ⟨h0, h1, h2⟩ hA.2 hC hc hlen hB had hz
        · by_cases hf : 4096 ≤ A ∧ A + bs.length ≤ n
          · obtain ⟨a, rfl⟩ : ∃ a : Nat, A = a := ⟨A.toNat, by omega⟩
            exact one_put_ok g d g' d' n G a D K N X A5 c5 bs w h ⟨h0, h1, h2⟩ hA.2 hC hc hlen hB had (by omega) (by omega) (by omega)
          · exact one_put_no g d g' d' n G D K N A X A5 c5 bs w h ⟨h0, h1, h2⟩ hA.1 hA.2 hC hc hlen hB had (by omega) (by omega)

theorem MemAt.drewN {w : World} {g d n : Nat} {F : Nat → Int} (h : MemAt w g d n F) (m : Nat) : MemAt (w.drewN m) g d n F :=
  h.keep (S := fun _ => False) ((Keep.refl _ _).drewN m) (fun f => f) (fun f => f)

theorem get_okI (g d n a m : Nat) (ai mi : Int) (G : Nat → Int) (w : World) (h : MemAt w g d n G) (ha : ai = a) (hmi : mi = m) (hm : 1 ≤ m) (h1 : 4096 ≤ a) (h2 : a + m ≤ n) :
    Calls Try.prog 22 #[.pointer (some ⟨g, 0, none⟩), .int .u64 ai, .int .i64 mi] w fun e w' => ∃ v, e = .returned (.tuple #[v, .int .i64 0]) ∧ w'.ownsRow w.heap.size 5 1 v m (nums .u8 (bytesOfF G a m)) ∧ Below w.heap.size w w' := by
  subst ha hmi
  exact get_ok g d n a m G w h hm h1 h2

theorem may_of (z : Int) (b : Bool) (w : World) (h : decide (8192 ≤ z ∧ z ≤ 1048576) = b) : Calls Try.prog 18 #[.int .i64 z] w fun e w' => e = .returned (.bool b) ∧ w = w' := h ▸ may_ok z w

set_option maxHeartbeats 800000 in
set_option maxRecDepth 100000 in
theorem memExact_no (z : Int) (v : Value) (w : World) (h0 : -9223372036854775808 ≤ z) (h1 : z ≤ 9223372036854775807) (h : z < 8192 ∨ 1048576 < z) :
    Calls Try.prog 4 #[.agg #[.int .i64 z, v]] w fun e w' => e = .returned (.bool true) ∧ Below w.heap.size w w' := by
  have hm : decide (8192 ≤ z ∧ z ≤ 1048576) = false := by simp; omega
  have HM := Lib.hid hm
  have HZ := Lib.hid h
  have B0 := Lib.hid ((Below.refl w.heap.size w).alloc (Nat.le_refl _) (.cells #[.int .i64 z, v] 41))
  clear h hm
  go_enter Try.func4, Try.ntmps4
  go_wp2_with (first | (go_at_call 11; refine (new_no _ _ h0 h1 HZ.out).mono ?_; rintro e w' ⟨rfl, rfl⟩) | (go_at_call 18; refine (may_of _ _ _ HM.out).mono ?_; rintro e w' ⟨rfl, rfl⟩) | (go_at_call 12; refine (num2 _ _).mono ?_; rintro e w' ⟨rfl, rfl⟩) | (go_at_call 17; refine (wakes2 _).mono ?_; rintro e w1 ⟨rfl, hb⟩; have B1 := Lib.hid hb; clear hb))
  go_ret
  exact ⟨rfl, B0.out.trans (B1.out.mono (by simp))⟩

set_option maxHeartbeats 2000000 in
set_option maxRecDepth 100000 in
theorem memExact_ok (n : Nat) (A : Option Addr) (cap : Nat) (l : List S32) (w : World) (h0 : 8192 ≤ n) (h1 : n ≤ 1048576) (hl : Kd.C k32 w A l.length l) (hwf : ∀ x ∈ l, OpWf x) :
    Calls Try.prog 4 #[.agg #[.int .i64 n, .slice A l.length cap]] w fun e w' => e = .returned (.bool true) ∧ Below w.heap.size w w' := by
  have hm : decide (8192 ≤ (n : Int) ∧ (n : Int) ≤ 1048576) = true := by simp; omega
  have HM := Lib.hid hm
  have B0 := Lib.hid ((Below.refl w.heap.size w).alloc (Nat.le_refl _) (.cells #[.int .i64 n, .slice A l.length cap] 41))
  have HL := Lib.hid hl
  have HWF := Lib.hid hwf
  clear hm hl hwf
  go_enter Try.func4, Try.ntmps4
  go_wp2_with fail
  refine (new_ex _ _ (by omega) (by omega)).mono ?_
  rintro e w2 ⟨g, d, rfl, hm2, hg, hd, hb2⟩
  rw [Int.toNat_natCast] at hm2
  have q0 := pw_cell_below (hb2.mono (by simp)) (a := ⟨w.heap.size, 0, none⟩) (v := .int .i64 n) (by simp)
  have q1 := pw_cell_below hb2 (a := ⟨w.heap.size, 1, none⟩) (v := .slice A l.length cap) (by simp)
  have M2 := Lib.hid hm2
  have B2 := Lib.hid hb2
  clear hm2 hb2
  go_wp2_with (first | (go_at_call 18; refine (may_of _ _ _ HM.out).mono ?_; rintro e w' ⟨rfl, rfl⟩))
  go_quiet ((first | (go_at_call 12; exact quiet_eq (num2 _ _)) | (go_at_call 19; exact quiet_eq (size_ok _ _ _ _ _ (M2.out.drewN _)))))
  go_wp2_with fail
  refine (rnew_ok (n : Int) _ (by omega) (by omega)).mono ?_
  rintro e w3 ⟨g', d', rfl, hm3, hg', hd', hb3⟩
  rw [Int.toNat_natCast] at hm3
  have hb3' : Below w2.heap.size w2 w3 := ⟨hb3.os, hb3.tape, hb3.output, hb3.size, hb3.block⟩
  have hM3 := M2.out.keep (S := fun _ => False) (Keep.of_below hb3') (fun f => f) (fun f => f)
  have hgd := M2.out.lt
  have hdd := M2.out.row.lt
  have hg1 : w2.heap.size ≤ g' := hg'
  have hd1 : w2.heap.size ≤ d' := hd'
  have hg2 : w.heap.size + 1 ≤ g := by simpa using hg
  have hd2 : w.heap.size + 1 ≤ d := by simpa using hd
  have hs2 : w.heap.size + 1 ≤ w2.heap.size := by have := B2.out.size; simpa using this
  have T3 := Lib.hid (show TwoMem w3 g d g' d' n (fun _ => 0) from ⟨hM3, hm3, by omega, by omega, by omega, by omega⟩)
  have W3 := Lib.hid (show Below (w.heap.size + 1) (w.alloc (.cells #[.int .i64 n, .slice A l.length cap] 41)) w3 from (B2.out.mono (by simp)).trans (hb3'.mono hs2))
  clear hm3 hb3 hb3' hM3 q0 q1 M2 hg' hd' hg hd
  go_wp2_with fail
  go_loopw [6] (fun i wr => ∃ k : Nat, k ≤ 100 ∧ i = .int .i64 k ∧ Hid (∃ G, TwoMem wr g d g' d' n G) ∧ Hid (Below (w.heap.size + 1) (w.alloc (.cells #[.int .i64 n, .slice A l.length cap] 41)) wr)) (fun i _ => 100 - (intOf i).toNat)
  case atStart => exact ⟨0, by omega, rfl, Lib.hid ⟨_, T3.out⟩, W3⟩
  case round =>
    clear W3 T3
    obtain ⟨k, hk, rfl, HT, HB⟩ := hrel
    have q0 := (HB.out.cell (p := ⟨w.heap.size, 0, none⟩) (by simp)).trans (show _ = some (.int .i64 n) by simp)
    have q1 := (HB.out.cell (p := ⟨w.heap.size, 1, none⟩) (by simp)).trans (show _ = some (.slice A l.length cap) by simp)
    by_cases hlt : k < l.length ∧ k < 100
    · obtain ⟨hlt, hk100⟩ := hlt
      have hBw := B0.out.trans (HB.out.mono (B' := w.heap.size) (by omega))
      obtain ⟨ad, A5, c5, rfl, c0, c1, c2, c3, c4, c5_, c6, c7⟩ := at_T32 HL.out k (by omega) (by omega)
      have hx := opWf_rd HWF.out (i := k) (by omega) (by omega)
      have had : 0 < (rd_T32 l k).f5.length → ∀ ad, A5 = some ad → ad.block < w.heap.size := by
        intro hp ad he
        obtain ⟨ad', he', hcell⟩ := BytesAt.cell c7 hp
        rw [he] at he'
        injection he' with he'
        subst he'
        have := World.block_lt_of_cell? w _ (hcell 0 hp)
        rwa [add_block] at this
      rw [Int.toNat_natCast] at c0 c1 c2 c3 c4 c5_
      replace c0 := pw_cell_below hBw c0
      replace c1 := pw_cell_below hBw c1
      replace c2 := pw_cell_below hBw c2
      replace c3 := pw_cell_below hBw c3
      replace c4 := pw_cell_below hBw c4
      replace c5_ := pw_cell_below hBw c5_
      generalize rd_T32 l k = x at *
      have HX := Lib.hid hx
      have HA := Lib.hid had
      have H7 := Lib.hid (Kd.C_below c7 hBw)
      clear hx had c7 hBw
      by_cases hlen : x.f5.length ≤ 4000
      · obtain ⟨G, hG⟩ := HT.out
        have T := Lib.hid hG
        clear hG HT
        go_wp2_with fail
        have hsz : w.heap.size + 1 ≤ wr.heap.size := by have := HB.out.size; simp at this; omega
        refine (one_any g d g' d' n G x A5 c5 _ T.out HX.out hlen H7.out c6 (fun hp ad he => by have := HA.out hp ad he; exact ⟨by omega, by omega, by omega⟩)).mono ?_
        rintro e w5 ⟨rfl, hT5, hK5⟩
        have T5 := Lib.hid hT5
        have W5 := Lib.hid (show Below (w.heap.size + 1) (w.alloc (.cells #[.int .i64 n, .slice (some ad) l.length cap] 41)) w5 from Keep.fresh HB.out hsz hK5 (fun i hi => by rcases hi with rfl | rfl <;> omega))
        clear hT5 hK5 c0 c1 c2 c3 c4 c5_ q0 q1 HB T
        go_wp2
        go_roundw
        case rel => exact ⟨k + 1, by omega, by go_num, T5, W5⟩
        case measure => simp [intOf]; omega
      · go_wp2
        go_ret
        exact ⟨rfl, B0.out.trans (HB.out.mono (by omega))⟩
    · have hn : ¬ ((k : Int) < l.length ∧ (k : Int) < 100) := by omega
      have hn' := Lib.hid hn
      obtain ⟨G, hG⟩ := HT.out
      have T := Lib.hid hG
      have hsz : w.heap.size ≤ wr.heap.size := by have := HB.out.size; simp at this; omega
      have B6 := Lib.hid (B0.out.trans (HB.out.mono (B' := w.heap.size) (by omega)))
      clear hn hlt HWF hG HT
      go_wp2_with fail
      all_goals (try (exfalso; have := hn'.out; omega))
      all_goals
        refine (get_okI g d n 4096 (n - 4096) 4096 ((n : Int) - 4096) G _ T.out.m (by omega) (by omega) (by omega) (by omega) (by omega)).mono ?_
        rintro e w6 ⟨v, rfl, ho, hb⟩
        obtain ⟨Ad, cp, rfl⟩ := own_slice ho
        have hc' := (T.out.grow hb).r.cell
        have C1 := Lib.hid (own_C ho (bytesOfF_length _ _ _))
        have C2 := Lib.hid (mem_C (T.out.grow hb).r (a := 4096) (m := n - 4096) (by omega))
        have hcap := own_cap ho
        have B7 := Lib.hid (B6.out.trans (hb.mono hsz))
        clear ho hb q0 q1
        go_wp2_with (first | (go_at_call 12; refine (num2 _ _).mono ?_; rintro e w' ⟨rfl, rfl⟩) | (go_at_call 23; refine (eqm (fun wq => eqBytes_ok Ad (some ⟨d', 4096, none⟩) cp _ (bytesOfF G 4096 (n - 4096)) wq (by rw [bytesOfF_length]; omega)) (bytesOfF_length _ _ _) C1.out C2.out hcap (Nat.le_refl _)).mono ?_; rintro e w8 ⟨rfl, nq, rfl⟩) | (go_at_call 17; refine (wakes2 _).mono ?_; rintro e w9 ⟨rfl, hb9⟩; have B9 := Lib.hid hb9; clear hb9))
        go_ret
        exact ⟨rfl, (pw_below_drewN B7.out nq).trans (B9.out.mono B7.out.size)⟩

end Go.Proofs.Ytekoogedhmhpgaa
