/- The contract of gantryref11.places; it and abi.hand as the print takes them. -/
import Derived.Test.YtekoogedhmhpgaaHandE3
import Derived.Test.YtekoogedhmhpgaaLotsWE3
namespace Go.Proofs.Ytekoogedhmhpgaa
open Go.RowKit Go.Proofs.YtekoogedhmhpgaaW.PrintWords
set_option linter.unusedVariables false

theorem isVal_ref {t : List Q.S124} (ht : okT t) (h0 : (liesR t).2 = 0) {i : Int} (h : isVal t i = true) : Q.gantryref7_Words.f t i = some ((entryR t i).1.f3, (entryR t i).1.f4, true) ∧ nW t i ≤ 16 := by
  refine ⟨?_, (isVal_words ht.lenB h).2⟩
  have hls : Lies t (liesR t).1 := ⟨ht, by rw [← h0]⟩
  unfold isVal at h
  simp only [Bool.and_eq_true, decide_eq_true_eq] at h
  have hi : 0 ≤ i ∧ i < t.length := by
    have h1 := h.1
    unfold entryR at h1
    rw [if_pos h0] at h1
    split at h1
    · rename_i h2
      rw [hls.len] at h2
      exact h2
    · simp at h1
  have he := hls.entry hi.1 hi.2
  rw [he] at h ⊢
  unfold Q.gantryref7_Words.f
  rw [if_pos ⟨ht.B, h0, hi.1, hi.2⟩]
  simp only at h
  simp only [h.2, if_true]
def RefPost (t : List Q.S124) (slot : Int) (l : List Int) (w : World) (e : Ending) (w' : World) : Prop := ∃ v0_ : Value, e = .returned (.tuple #[v0_, .int .i64 (handF t (0, slot, []) l).2.1]) ∧ Kd.R Q.k85 85 w' w.heap.size (fun _ => True) v0_ (handF t (0, slot, []) l).1 ∧ Below w.heap.size w w'

set_option maxHeartbeats 8000000 in
set_option maxRecDepth 100000 in
theorem refPlaces_ok (t : List Q.S124) (ht : okT t) (h0 : (liesR t).2 = 0) (l : List Int) (hl : l.length ≤ 1000) (hv : ∀ i ∈ l, isVal t i = true) (slot : Int) (hs0 : 0 ≤ slot) (hs1 : slot ≤ 1000000) (A A1 : Option Addr) (c c1 : Nat) (w : World) (hA : Kd.C Q.k124 w A t.length t) (hc : t.length ≤ c) (hA1 : IntsAt w A1 l) :
    Calls Try.prog 95 #[.slice A t.length c, .slice A1 l.length c1, .int .i64 slot] w (RefPost t slot l w) := by
  have HA := Lib.hid hA
  have HA1 := Lib.hid hA1
  have HT := Lib.hid ht
  have H0 := Lib.hid h0
  have HV := Lib.hid hv
  clear hA hA1 ht h0 hv
  go_enter Try.func95, Try.ntmps95
  go_wp2_with fail
  go_loopw [2, 8, 9, 10] (fun vs v8 v9 vi wr => ∃ k : Nat, ∃ nx sl : Int, ∃ acc : List Place, ∃ B cap, k ≤ l.length ∧ vi = .int .i64 k ∧ vs = .int .i64 sl ∧ v9 = .int .i64 nx ∧ v8 = .slice B acc.length cap ∧ 0 ≤ nx ∧ nx ≤ 6 ∧ 0 ≤ sl ∧ sl ≤ 1000000 + 16 * k ∧ acc.length ≤ 16 * k ∧ Hid (Q.k85.R 85 wr w.heap.size (fun _ => True) (.slice B acc.length cap) acc) ∧ Hid (Below w.heap.size w wr) ∧ Hid (handF t (0, slot, []) l = handF t (nx, sl, acc) (l.drop k))) (fun _ _ _ i _ => l.length - (intOf i).toNat)
  case atStart => exact ⟨0, 0, slot, [], none, 0, Nat.zero_le _, rfl, rfl, rfl, rfl, by omega, by omega, by omega, by omega, by simp, Lib.hid (Kd.R_nil _ _ _ _ _), Lib.hid (Below.refl _ _), Lib.hid rfl⟩
  case round =>
    obtain ⟨k, nx, sl, acc, B, cap, hk, rfl, rfl, rfl, rfl, hn0, hn1, hsl0, hsl1, hac, HR, HB, HF⟩ := hrel
    obtain ⟨wo, rfl⟩ : ∃ wo : World, wo = wr := ⟨_, rfl⟩
    by_cases hlt : k < l.length
    · obtain ⟨ad, rfl, hcell⟩ := IntsAt.cell HA1.out (by omega)
      have hck := pw_cell_below HB.out (hcell k hlt)
      have hd : l.drop k = l.getD k 0 :: l.drop (k + 1) := by
        rw [List.drop_eq_getElem_cons hlt, List.getD_eq_getElem?_getD, List.getElem?_eq_getElem hlt]
        rfl
      have hmem : l.getD k 0 ∈ l := by rw [List.getD_eq_getElem?_getD, List.getElem?_eq_getElem hlt]; exact List.getElem_mem _
      have hvi := HV.out _ hmem
      have hf := HF.out
      rw [hd, handF, if_pos hvi] at hf
      obtain ⟨hw, hn16⟩ := isVal_ref HT.out H0.out hvi
      have HFS := Lib.hid hf
      have HW := Lib.hid hw
      clear hcell hd hf HF hmem hvi hw
      generalize l.getD k 0 = i at *
      go_wp2_with fail
      refine (Q.gantryref7_Words.calls A c t i _ _ true _ (Kd.C_below HA.out HB.out) hc HW.out).mono ?_
      rintro e w2 ⟨v0, v1, rfl, hr0, hr1, hb2⟩
      obtain ⟨K0, k0, rfl⟩ := Kd.R_slice hr0
      have R2 := Lib.hid (Kd.R_below HR.out hb2)
      have B2 := Lib.hid (HB.out.trans (hb2.mono HB.out.size))
      have hnW : (entryR t i).1.f3.length = nW t i := rfl
      rw [hnW] at *
      clear hr0 hr1 hb2 hck HR HB hnW
      generalize nW t i = n at *
      by_cases hfit : nx + n ≤ 6
      · have HP := Lib.hid (show putW n (nx, sl, acc) = (nx + n, sl, acc ++ regs nx n) from if_pos hfit)
        have hfd : decide ((n : Int) ≤ 6 - nx) = true := by simp; omega
        go_wp2_with fail
        go_loopw [2, 8, 9, 15] (fun vs v8 v9 vq wr => ∃ q : Nat, ∃ acc2 : List Place, ∃ B2 cap2, q ≤ n ∧ vq = .int .i64 q ∧ vs = .int .i64 sl ∧ v9 = .int .i64 (nx + q) ∧ v8 = .slice B2 acc2.length cap2 ∧ acc2.length ≤ 16 * k + q ∧ Hid (acc2 = acc ++ regs nx q) ∧ Hid (Q.k85.R 85 wr w.heap.size (fun _ => True) (.slice B2 acc2.length cap2) acc2) ∧ Hid (Below w.heap.size w wr)) (fun _ _ _ i _ => n - (intOf i).toNat)
        case atStart => exact ⟨0, acc, B, cap, Nat.zero_le _, rfl, by simp, by simp, rfl, by omega, Lib.hid (by simp [regs]), R2, B2⟩
        case round =>
          obtain ⟨q, acc2, B2', cap2, hq, rfl, rfl, rfl, rfl, ha2, HA2, HR, HB⟩ := hrel
          obtain ⟨wq, rfl⟩ : ∃ wq : World, wq = wr := ⟨_, rfl⟩
          by_cases hqn : q < n
          · go_wp2_with (at_builtin; apply stopHere)
            unfold StopHere
            refine Kd.R_append Q.k85 (w0 := w) w.heap.size rfl (.tmp 44) (.tmp 47) 71 85 (.agg #[.bool false, .int .i64 0]) 16 rfl Try.underlying71 placeInfo rfl (show 0 < 2 from Nat.succ_pos 1) (Nat.succ_pos 15) (.slice B2' acc2.length cap2) acc2 ⟨false, nx + q⟩ [.bool false, .int .i64 (nx + q)] (fun _ => True) (fun _ => False) rfl rfl (Q.k85_mkM _ _ _ _) (fun _ h => h.elim) (fun _ _ => trivial) HR.out HB.out HB.out.size (by omega) ?_
            intro v1 w1 hR1 hB1 hg1 hat1
            obtain ⟨ad1, cap1, rfl⟩ := Kd.R_slice1 hR1 (by simp)
            have HR1 := Lib.hid hR1
            have HB1 := Lib.hid hB1
            clear hR1 hB1 hg1 hat1 HR HB
            go_wp2
            go_roundw
            case rel => exact ⟨q + 1, acc2 ++ [(⟨false, nx + q⟩ : Place)], some ad1, cap1, by omega, by go_num, rfl, by go_num, by first | rfl | simp, by simp; omega, Lib.hid (by rw [HA2.out, regs_succ, List.append_assoc]), HR1, HB1⟩
            case measure => simp [intOf]; omega
          · obtain rfl : q = n := by omega
            have HE := Lib.hid (show handF t (0, slot, []) l = handF t ((nx + q), sl, acc2) (l.drop (k + 1)) by rw [HFS.out, HP.out, HA2.out])
            go_wp2
            exact ⟨⟨k + 1, (nx + q), sl, acc2, B2', cap2, by omega, by go_num, rfl, rfl, rfl, by omega, by omega, by omega, by omega, by omega, HR, HB, HE⟩, by simp [intOf]; omega⟩
      · have hfit : ¬ (nx + n ≤ 6) := hfit
        have HP := Lib.hid (show putW n (nx, sl, acc) = (nx, sl + n, acc ++ stks sl n) from if_neg (by simp only; omega))
        have hfd : decide ((n : Int) ≤ 6 - nx) = false := by simp; omega
        go_wp2_with fail
        go_loopw [2, 8, 9, 15] (fun vs v8 v9 vq wr => ∃ q : Nat, ∃ acc2 : List Place, ∃ B2 cap2, q ≤ n ∧ vq = .int .i64 q ∧ vs = .int .i64 (sl + q) ∧ v9 = .int .i64 nx ∧ v8 = .slice B2 acc2.length cap2 ∧ acc2.length ≤ 16 * k + q ∧ Hid (acc2 = acc ++ stks sl q) ∧ Hid (Q.k85.R 85 wr w.heap.size (fun _ => True) (.slice B2 acc2.length cap2) acc2) ∧ Hid (Below w.heap.size w wr)) (fun _ _ _ i _ => n - (intOf i).toNat)
        case atStart => exact ⟨0, acc, B, cap, Nat.zero_le _, rfl, by simp, by simp, rfl, by omega, Lib.hid (by simp [stks]), R2, B2⟩
        case round =>
          obtain ⟨q, acc2, B2', cap2, hq, rfl, rfl, rfl, rfl, ha2, HA2, HR, HB⟩ := hrel
          obtain ⟨wq, rfl⟩ : ∃ wq : World, wq = wr := ⟨_, rfl⟩
          by_cases hqn : q < n
          · go_wp2_with (at_builtin; apply stopHere)
            unfold StopHere
            refine Kd.R_append Q.k85 (w0 := w) w.heap.size rfl (.tmp 51) (.tmp 54) 71 85 (.agg #[.bool false, .int .i64 0]) 16 rfl Try.underlying71 placeInfo rfl (show 0 < 2 from Nat.succ_pos 1) (Nat.succ_pos 15) (.slice B2' acc2.length cap2) acc2 ⟨true, sl + q⟩ [.bool true, .int .i64 (sl + q)] (fun _ => True) (fun _ => False) rfl rfl (Q.k85_mkM _ _ _ _) (fun _ h => h.elim) (fun _ _ => trivial) HR.out HB.out HB.out.size (by omega) ?_
            intro v1 w1 hR1 hB1 hg1 hat1
            obtain ⟨ad1, cap1, rfl⟩ := Kd.R_slice1 hR1 (by simp)
            have HR1 := Lib.hid hR1
            have HB1 := Lib.hid hB1
            clear hR1 hB1 hg1 hat1 HR HB
            go_wp2
            go_roundw
            case rel => exact ⟨q + 1, acc2 ++ [(⟨true, sl + q⟩ : Place)], some ad1, cap1, by omega, by go_num, by go_num, rfl, by first | rfl | simp, by simp; omega, Lib.hid (by rw [HA2.out, stks_succ, List.append_assoc]), HR1, HB1⟩
            case measure => simp [intOf]; omega
          · obtain rfl : q = n := by omega
            have HE := Lib.hid (show handF t (0, slot, []) l = handF t (nx, (sl + q), acc2) (l.drop (k + 1)) by rw [HFS.out, HP.out, HA2.out])
            go_wp2
            exact ⟨⟨k + 1, nx, (sl + q), acc2, B2', cap2, by omega, by go_num, rfl, rfl, rfl, by omega, by omega, by omega, by omega, by omega, HR, HB, HE⟩, by simp [intOf]; omega⟩
    · obtain rfl : k = l.length := by omega
      have hf := HF.out
      rw [List.drop_length, handF] at hf
      have HF' := Lib.hid hf
      clear hf HF
      go_wp2
      go_ret2
      unfold RefPost
      rw [HF'.out]
      exact ⟨_, rfl, HR.out, HB.out⟩

namespace Q
def abi_hand.f (t : List Q.S124) (l : List Int) (slot : Int) : Option (List Q.S85 × Int × Int) := if lenB t = true ∧ l.length ≤ 1000 ∧ 0 ≤ slot ∧ slot ≤ 1000000 then some (handF t (0, slot, []) l) else none
theorem abi_hand.calls (A0 : Option Addr) (c0 : Nat) (l0 : List Q.S124) (A1 : Option Addr) (c1 : Nat) (l1 : List Int) (a2 : Int) (r1 : List Q.S85) (r2 r3 : Int) (w : World) (hr0 : Kd.C Q.k124 w A0 l0.length l0) (hc0 : l0.length ≤ c0) (hr1 : Kd.C (Kd.int .i64) w A1 l1.length l1) (hc1 : l1.length ≤ c1) (h : abi_hand.f l0 l1 a2 = some (r1, r2, r3)) :
    Calls Try.prog 93 #[.slice A0 l0.length c0, .slice A1 l1.length c1, .int .i64 a2] w fun e w' => ∃ v0_ : Value, e = .returned (.tuple #[v0_, .int .i64 r2, .int .i64 r3]) ∧ Kd.R Q.k85 85 w' w.heap.size (fun _ => True) v0_ r1 ∧ Below w.heap.size w w' := by
  unfold abi_hand.f at h
  split at h
  · rename_i hh
    obtain ⟨h1, h2, h3, h4⟩ := hh
    have he := Option.some.inj h
    have := hand_ok l0 h1 l1 h2 a2 h3 h4 A0 A1 c0 c1 w hr0 hc0 hr1
    rw [he] at this
    exact this
  · cases h
def gantryref11_places.f (t : List Q.S124) (l : List Int) (slot : Int) : Option (List Q.S85 × Int) := if okTB t = true ∧ (liesR t).2 = 0 ∧ l.length ≤ 1000 ∧ l.all (isVal t) = true ∧ 0 ≤ slot ∧ slot ≤ 1000000 then some ((handF t (0, slot, []) l).1, (handF t (0, slot, []) l).2.1) else none
theorem gantryref11_places.calls (A0 : Option Addr) (c0 : Nat) (l0 : List Q.S124) (A1 : Option Addr) (c1 : Nat) (l1 : List Int) (a2 : Int) (r1 : List Q.S85) (r2 : Int) (w : World) (hr0 : Kd.C Q.k124 w A0 l0.length l0) (hc0 : l0.length ≤ c0) (hr1 : Kd.C (Kd.int .i64) w A1 l1.length l1) (hc1 : l1.length ≤ c1) (h : gantryref11_places.f l0 l1 a2 = some (r1, r2)) :
    Calls Try.prog 95 #[.slice A0 l0.length c0, .slice A1 l1.length c1, .int .i64 a2] w fun e w' => ∃ v0_ : Value, e = .returned (.tuple #[v0_, .int .i64 r2]) ∧ Kd.R Q.k85 85 w' w.heap.size (fun _ => True) v0_ r1 ∧ Below w.heap.size w w' := by
  unfold gantryref11_places.f at h
  split at h
  · rename_i hh
    obtain ⟨h1, h2, h3, h4, h5, h6⟩ := hh
    have he := Option.some.inj h
    simp only [Prod.mk.injEq] at he
    obtain ⟨rfl, rfl⟩ := he
    exact refPlaces_ok l0 (okTB_of h1) h2 l1 h3 (List.all_eq_true.1 h4) a2 h5 h6 A0 A1 c0 c1 w hr0 hc0 hr1
  · cases h
end Q
end Go.Proofs.Ytekoogedhmhpgaa

