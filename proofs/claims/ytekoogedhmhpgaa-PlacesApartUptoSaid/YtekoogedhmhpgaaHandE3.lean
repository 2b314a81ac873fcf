/- The contract of abi.hand: where words are handed over, entry by entry. -/
import Derived.Test.YtekoogedhmhpgaaTypesLieE3
import Derived.WalkSpells
import Derived.WalkMore
namespace Go.Proofs.Ytekoogedhmhpgaa
open Go.RowKit Go.Proofs.YtekoogedhmhpgaaW.PrintWords
set_option linter.unusedVariables false

abbrev Place := Q.S85
def regs (a : Int) (n : Nat) : List Place := (List.range n).map fun k : Nat => ⟨false, a + (k : Int)⟩
def stks (a : Int) (n : Nat) : List Place := (List.range n).map fun k : Nat => ⟨true, a + (k : Int)⟩
theorem regs_succ (a : Int) (n : Nat) : regs a (n + 1) = regs a n ++ [⟨false, a + n⟩] := by simp [regs, List.range_succ]
theorem stks_succ (a : Int) (n : Nat) : stks a (n + 1) = stks a n ++ [⟨true, a + n⟩] := by simp [stks, List.range_succ]
theorem regs_len (a : Int) (n : Nat) : (regs a n).length = n := by simp [regs]
theorem stks_len (a : Int) (n : Nat) : (stks a n).length = n := by simp [stks]
/-- A value's words are placed: the next register, the next slot, what has been placed. -/
def putW (n : Nat) (st : Int × Int × List Place) : Int × Int × List Place :=
  if st.1 + n ≤ 6 then (st.1 + n, st.2.1, st.2.2 ++ regs st.1 n) else (st.1, st.2.1 + n, st.2.2 ++ stks st.2.1 n)
/-- Is it a value's type? How many words has it? -/
def isVal (t : List Q.S124) (i : Int) : Bool := decide ((entryR t i).2 = 0) && (entryR t i).1.f2
def nW (t : List Q.S124) (i : Int) : Nat := (entryR t i).1.f3.length
def handF (t : List Q.S124) : Int × Int × List Place → List Int → List Place × Int × Int
  | st, [] => (st.2.2, st.2.1, 0)
  | st, i :: l => if isVal t i = true then handF t (putW (nW t i) st) l else ([], 0, 120)

theorem take_fits (n nx : Int) (b : Nat) (w : World) (hb : w.heap[b]? = some (.cells #[.int .i64 nx] 3 (0, 0))) (h0 : 0 ≤ nx) (h1 : 0 ≤ n) (h : nx + n ≤ 6) :
    Calls Try.prog 127 #[.int .i64 n, .pointer (some ⟨b, 0, none⟩)] w fun e w' => e = .returned (.tuple #[.int .i64 nx, .bool true]) ∧ w' = w.setCell ⟨b, 0, none⟩ (.int .i64 (nx + n)) := by
  have c0 := lblk_cell hb 0
  have z0 := blk_fz hb 0
  simp only [List.getElem?_toArray, List.getElem?_cons_zero] at c0
  go_enter Try.func127, Try.ntmps127
  go_wp2
  go_ret2
  exact ⟨rfl, rfl⟩
theorem take_not (n nx : Int) (b : Nat) (w : World) (hb : w.heap[b]? = some (.cells #[.int .i64 nx] 3 (0, 0))) (h0 : 0 ≤ nx) (h1 : 0 ≤ n) (h2 : nx ≤ 6) (h3 : n ≤ 16) (h : 6 < nx + n) :
    Calls Try.prog 127 #[.int .i64 n, .pointer (some ⟨b, 0, none⟩)] w fun e w' => e = .returned (.tuple #[.int .i64 0, .bool false]) ∧ w = w' := by
  have c0 := lblk_cell hb 0
  have z0 := blk_fz hb 0
  simp only [List.getElem?_toArray, List.getElem?_cons_zero] at c0
  go_enter Try.func127, Try.ntmps127
  go_wp2
  go_ret2
  exact ⟨rfl, rfl⟩

theorem placeInfo : (Try.prog.info? 85).map (fun i => (i.zero, i.size, i.bytes)) = some (some (.agg #[.bool false, .int .i64 0]), 2, 16) := by kernel_rfl
theorem isVal_words {t : List Q.S124} (hb : lenB t = true) {i : Int} (h : isVal t i = true) : Q.types_Words.f t i = some ((entryR t i).1.f3, (entryR t i).1.f4, 0) ∧ nW t i ≤ 16 := by
  unfold isVal at h
  simp only [Bool.and_eq_true, decide_eq_true_eq] at h
  refine ⟨?_, (entry_good (t := t) (i := i) (x := (entryR t i).1) (by rw [← h.1])).1.kinds⟩
  unfold Q.types_Words.f
  rw [if_pos hb, if_pos h.1, if_pos h.2]
theorem notVal_words {t : List Q.S124} (hb : lenB t = true) {i : Int} (h : isVal t i = false) : ∃ e : Int, e ≠ 0 ∧ Q.types_Words.f t i = some ([], [], e) := by
  unfold isVal at h
  unfold Q.types_Words.f
  rw [if_pos hb]
  by_cases h1 : (entryR t i).2 = 0
  · rw [if_pos h1]
    have h2 : ¬ (entryR t i).1.f2 = true := by simpa [h1] using h
    rw [if_neg h2]
    exact ⟨70, by decide, rfl⟩
  · rw [if_neg h1]
    exact ⟨_, h1, rfl⟩

/-- What loop 1 keeps. -/
structure HandAt (w0 w : World) (nx slot : Int) (acc : List Place) (v : Value) : Prop where
  r : Q.k85.R 85 w w0.heap.size (fun _ => True) v acc
  blk : w.heap[w0.heap.size]? = some (.cells #[.int .i64 nx] 3 (0, 0))
  below : Below w0.heap.size w0 w

theorem HandAt.set {w0 w : World} {nx slot : Int} {acc : List Place} {v : Value} (h : HandAt w0 w nx slot acc v) (nx' : Int) : HandAt w0 (w.setCell ⟨w0.heap.size, 0, none⟩ (.int .i64 nx')) nx' slot acc v :=
  ⟨Kd.R_set h.r h.blk (by intro q hq; simp [Q.k85, Kd.iso, Kd.pair, Kd.int, Kd.bool, Kd.scalar] at hq; subst hq; decide) 0 _, box_set h.blk _, h.below.setCell (p := ⟨w0.heap.size, 0, none⟩) (Nat.le_refl _) _⟩
theorem HandAt.grown {w0 w w1 : World} {nx slot : Int} {acc acc' : List Place} {v v' : Value} {o : Obj} (h : HandAt w0 w nx slot acc v) (hr : Q.k85.R 85 w1 w0.heap.size (fun _ => True) v' acc') (hb : Below w0.heap.size w0 w1) (hg : (w.alloc o).grownBy w1 v.ownBlock ∨ w.grownBy w1 v.ownBlock) : HandAt w0 w1 nx slot acc' v' := by
  obtain ⟨_, ho⟩ := Kd.R_own h.r
  have hne : some w0.heap.size ≠ v.ownBlock := own_ne ho h.blk (by decide)
  have hlt := (Array.getElem?_eq_some_iff.1 h.blk).1
  refine ⟨hr, ?_, hb⟩
  rcases hg with hg | hg
  · exact (hg.block _ (by simp; omega) hne).trans ((Below.heap_alloc _ _ _ hlt).trans h.blk)
  · exact (hg.block _ hlt hne).trans h.blk

set_option maxHeartbeats 8000000 in
set_option maxRecDepth 100000 in
theorem hand_ok (t : List Q.S124) (hlen : lenB t = true) (l : List Int) (hl : l.length ≤ 1000) (slot : Int) (hs0 : 0 ≤ slot) (hs1 : slot ≤ 1000000) (A A1 : Option Addr) (c c1 : Nat) (w : World) (hA : Kd.C Q.k124 w A t.length t) (hc : t.length ≤ c) (hA1 : IntsAt w A1 l) :
    Calls Try.prog 93 #[.slice A t.length c, .slice A1 l.length c1, .int .i64 slot] w fun e w' => ∃ v0_ : Value, e = .returned (.tuple #[v0_, .int .i64 (handF t (0, slot, []) l).2.1, .int .i64 (handF t (0, slot, []) l).2.2]) ∧ Kd.R Q.k85 85 w' w.heap.size (fun _ => True) v0_ (handF t (0, slot, []) l).1 ∧ Below w.heap.size w w' := by
  have HA := Lib.hid hA
  have HA1 := Lib.hid hA1
  have HL := Lib.hid hlen
  clear hA hA1 hlen
  have H0 := Lib.hid (show HandAt w (w.alloc (.cells #[.int .i64 0] 3)) 0 slot [] (.slice none 0 0) from ⟨Kd.R_nil _ _ _ _ _, Deep.blk_alloc_new _ _, (Below.refl _ _).alloc (Nat.le_refl _) _⟩)
  go_enter Try.func93, Try.ntmps93
  go_wp2_with fail
  go_loopw [2, 6, 22] (fun vs v6 vi wr => ∃ k : Nat, ∃ nx sl : Int, ∃ acc : List Place, ∃ B cap, k ≤ l.length ∧ vi = .int .i64 k ∧ vs = .int .i64 sl ∧ v6 = .slice B acc.length cap ∧ 0 ≤ nx ∧ nx ≤ 6 ∧ 0 ≤ sl ∧ sl ≤ 1000000 + 16 * k ∧ acc.length ≤ 16 * k ∧ Hid (HandAt w wr nx sl acc (.slice B acc.length cap)) ∧ Hid (handF t (0, slot, []) l = handF t (nx, sl, acc) (l.drop k))) (fun _ _ i _ => l.length - (intOf i).toNat)
  case atStart => exact ⟨0, 0, slot, [], none, 0, Nat.zero_le _, rfl, rfl, rfl, by omega, by omega, by omega, by omega, by simp, H0, Lib.hid rfl⟩
  case round =>
    obtain ⟨k, nx, sl, acc, B, cap, hk, rfl, rfl, rfl, hn0, hn1, hsl0, hsl1, hac, HH, HF⟩ := hrel
    obtain ⟨wo, rfl⟩ : ∃ wo : World, wo = wr := ⟨_, rfl⟩
    by_cases hlt : k < l.length
    · obtain ⟨ad, rfl, hcell⟩ := IntsAt.cell HA1.out (by omega)
      have hck := pw_cell_below HH.out.below (hcell k hlt)
      have hd : l.drop k = l.getD k 0 :: l.drop (k + 1) := by
        rw [List.drop_eq_getElem_cons hlt, List.getD_eq_getElem?_getD, List.getElem?_eq_getElem hlt]
        rfl
      have hf := HF.out
      rw [hd] at hf
      have HF' := Lib.hid hf
      clear hcell hd hf HF
      generalize l.getD k 0 = i at *
      cases hv : isVal t i with
      | false =>
        obtain ⟨er, her, hw⟩ := notVal_words HL.out hv
        have HW := Lib.hid hw
        have HV := Lib.hid hv
        clear hw hv
        go_wp2_with fail
        go_step3
        go_wp2_with fail
        refine (Q.types_Words.calls A c t i [] [] er _ (Kd.C_below HA.out HH.out.below) hc HW.out).mono ?_
        rintro e w2 ⟨v0, v1, rfl, hr0, hr1, hb2⟩
        have HB2 := Lib.hid (HH.out.below.trans (hb2.mono HH.out.below.size))
        clear hr0 hr1 hb2
        go_wp2
        rw [Exit.noGoto_ret]
        go_wp2
        go_ret3
        have hz : handF t (0, slot, []) l = ([], 0, 120) := by rw [HF'.out, handF, HV.out]; rfl
        rw [hz]
        exact ⟨_, rfl, Kd.R_nil _ _ _ _ _, HB2.out⟩
      | true =>
        obtain ⟨hw, hn16⟩ := isVal_words HL.out hv
        have HW := Lib.hid hw
        have HV := Lib.hid hv
        clear hw hv
        go_wp2_with fail
        go_step3
        go_wp2_with fail
        refine (Q.types_Words.calls A c t i _ _ 0 _ (Kd.C_below HA.out HH.out.below) hc HW.out).mono ?_
        rintro e w2 ⟨v0, v1, rfl, hr0, hr1, hb2⟩
        obtain ⟨K0, k0, rfl⟩ := Kd.R_slice hr0
        have H2 := Lib.hid (show HandAt w w2 nx sl acc (.slice B acc.length cap) from ⟨Kd.R_below HH.out.r hb2, (hb2.block _ (Array.getElem?_eq_some_iff.1 HH.out.blk).1).trans HH.out.blk, HH.out.below.trans (hb2.mono HH.out.below.size)⟩)
        have hnW : (entryR t i).1.f3.length = nW t i := rfl
        rw [hnW] at *
        have HFS := Lib.hid (show handF t (0, slot, []) l = handF t (putW (nW t i) (nx, sl, acc)) (l.drop (k + 1)) by rw [HF'.out, handF, HV.out]; rfl)
        clear hr0 hr1 hb2 HF' hck HH hnW
        generalize nW t i = n at *
        by_cases hfit : nx + n ≤ 6
        · go_wp2_with fail
          refine (take_fits n nx w.heap.size _ H2.out.blk hn0 (by omega) hfit).mono ?_
          rintro e w3 ⟨rfl, rfl⟩
          have H3 := Lib.hid (HandAt.set H2.out (nx + n))
          have HP := Lib.hid (show putW n (nx, sl, acc) = (nx + n, sl, acc ++ regs nx n) from if_pos hfit)
          clear H2
          generalize w2.setCell ⟨w.heap.size, 0, none⟩ (.int .i64 (nx + n)) = w4 at *
          go_wp2_with fail
          go_step3
          go_wp2_with fail
          go_loopw [2, 6, 42] (fun vs v6 vq wr => ∃ q : Nat, ∃ acc2 : List Place, ∃ B2 cap2, q ≤ n ∧ vq = .int .i64 q ∧ vs = .int .i64 sl ∧ v6 = .slice B2 acc2.length cap2 ∧ acc2.length ≤ 16 * k + q ∧ Hid (acc2 = acc ++ regs nx q) ∧ Hid (HandAt w wr (nx + n) sl acc2 (.slice B2 acc2.length cap2))) (fun _ _ i _ => 16 - (intOf i).toNat)
          case atStart => exact ⟨0, acc, B, cap, Nat.zero_le _, rfl, rfl, rfl, by omega, Lib.hid (by simp [regs]), H3⟩
          case round =>
            obtain ⟨q, acc2, B2, cap2, hq, rfl, rfl, rfl, ha2, HA2, HQ⟩ := hrel
            obtain ⟨wq, rfl⟩ : ∃ wq : World, wq = wr := ⟨_, rfl⟩
            by_cases hqn : q < n
            · have hq16 : (q : Int) < 16 := by omega
              have hqn2 : ¬ (q : Int) = (n : Int) := by omega
              go_wp2_with (at_builtin; apply stopHere)
              unfold StopHere
              refine Kd.R_append Q.k85 (w0 := w) w.heap.size rfl (.tmp 59) (.tmp 64) 71 85 (.agg #[.bool false, .int .i64 0]) 16 rfl Try.underlying71 placeInfo rfl (show 0 < 2 from Nat.succ_pos 1) (Nat.succ_pos 15) (.slice B2 acc2.length cap2) acc2 ⟨false, nx + q⟩ [.bool false, .int .i64 (nx + q)] (fun _ => True) (fun _ => False) rfl rfl (Q.k85_mkM _ _ _ _) (fun _ h => h.elim) (fun _ _ => trivial) HQ.out.r HQ.out.below HQ.out.below.size (by omega) ?_
              intro v1 w1 hR1 hB1 hg1 hat1
              obtain ⟨ad1, cap1, rfl⟩ := Kd.R_slice1 hR1 (by simp)
              have H5 := Lib.hid (show HandAt w w1 (nx + n) sl (acc2 ++ [(⟨false, nx + q⟩ : Place)]) (.slice (some ad1) (acc2 ++ [(⟨false, nx + q⟩ : Place)]).length cap1) from HandAt.grown (o := .cells #[] 0) HQ.out hR1 hB1 (.inr hg1))
              clear hR1 hB1 hg1 hat1 HQ
              go_wp2
              go_roundw
              case rel => exact ⟨q + 1, acc2 ++ [⟨false, nx + q⟩], some ad1, cap1, by omega, by go_num, rfl, by first | rfl | simp, by simp; omega, Lib.hid (by rw [HA2.out, regs_succ, List.append_assoc]), H5⟩
              case measure => simp [intOf]; omega
            · obtain rfl : q = n := by omega
              have HE := Lib.hid (show handF t (0, slot, []) l = handF t ((nx + q), sl, acc2) (l.drop (k + 1)) by rw [HFS.out, HP.out, HA2.out])
              by_cases h16 : q = 16
              · have hq16 : ¬ (q : Int) < 16 := by omega
                clear h16
                go_wp2
                exact ⟨⟨k + 1, nx + q, sl, acc2, B2, cap2, by omega, by go_num, rfl, rfl, by omega, by omega, by omega, by omega, by omega, HQ, HE⟩, by simp [intOf]; omega⟩
              · have hq16 : (q : Int) < 16 := by omega
                go_wp2
                rw [Exit.noGoto_normal]
                go_wp2
                exact ⟨⟨k + 1, nx + q, sl, acc2, B2, cap2, by omega, by go_num, rfl, rfl, by omega, by omega, by omega, by omega, by omega, HQ, HE⟩, by simp [intOf]; omega⟩
        · go_wp2_with fail
          refine (take_not n nx w.heap.size _ H2.out.blk hn0 (by omega) hn1 (by omega) (by omega)).mono ?_
          rintro e w3 ⟨rfl, rfl⟩
          have H3 := Lib.hid (H2.out)
          have HP := Lib.hid (show putW n (nx, sl, acc) = (nx, sl + n, acc ++ stks sl n) from if_neg (by simp only; omega))
          clear H2
          
          go_wp2_with fail
          go_step3
          go_wp2_with fail
          go_loopw [2, 6, 42] (fun vs v6 vq wr => ∃ q : Nat, ∃ acc2 : List Place, ∃ B2 cap2, q ≤ n ∧ vq = .int .i64 q ∧ vs = .int .i64 (sl + q) ∧ v6 = .slice B2 acc2.length cap2 ∧ acc2.length ≤ 16 * k + q ∧ Hid (acc2 = acc ++ stks sl q) ∧ Hid (HandAt w wr nx sl acc2 (.slice B2 acc2.length cap2))) (fun _ _ i _ => 16 - (intOf i).toNat)
          case atStart => exact ⟨0, acc, B, cap, Nat.zero_le _, rfl, by simp, rfl, by omega, Lib.hid (by simp [stks]), H3⟩
          case round =>
            obtain ⟨q, acc2, B2, cap2, hq, rfl, rfl, rfl, ha2, HA2, HQ⟩ := hrel
            obtain ⟨wq, rfl⟩ : ∃ wq : World, wq = wr := ⟨_, rfl⟩
            by_cases hqn : q < n
            · have hq16 : (q : Int) < 16 := by omega
              have hqn2 : ¬ (q : Int) = (n : Int) := by omega
              go_wp2_with (at_builtin; apply stopHere)
              unfold StopHere
              refine Kd.R_append Q.k85 (w0 := w) w.heap.size rfl (.tmp 45) (.tmp 48) 71 85 (.agg #[.bool false, .int .i64 0]) 16 rfl Try.underlying71 placeInfo rfl (show 0 < 2 from Nat.succ_pos 1) (Nat.succ_pos 15) (.slice B2 acc2.length cap2) acc2 ⟨true, sl + q⟩ [.bool true, .int .i64 (sl + q)] (fun _ => True) (fun _ => False) rfl rfl (Q.k85_mkM _ _ _ _) (fun _ h => h.elim) (fun _ _ => trivial) HQ.out.r HQ.out.below HQ.out.below.size (by omega) ?_
              intro v1 w1 hR1 hB1 hg1 hat1
              obtain ⟨ad1, cap1, rfl⟩ := Kd.R_slice1 hR1 (by simp)
              have H5 := Lib.hid (show HandAt w w1 nx sl (acc2 ++ [(⟨true, sl + q⟩ : Place)]) (.slice (some ad1) (acc2 ++ [(⟨true, sl + q⟩ : Place)]).length cap1) from HandAt.grown (o := .cells #[] 0) HQ.out hR1 hB1 (.inr hg1))
              clear hR1 hB1 hg1 hat1 HQ
              go_wp2
              go_roundw
              case rel => exact ⟨q + 1, acc2 ++ [⟨true, sl + q⟩], some ad1, cap1, by omega, by go_num, by go_num, by first | rfl | simp, by simp; omega, Lib.hid (by rw [HA2.out, stks_succ, List.append_assoc]), H5⟩
              case measure => simp [intOf]; omega
            · obtain rfl : q = n := by omega
              have HE := Lib.hid (show handF t (0, slot, []) l = handF t (nx, sl + q, acc2) (l.drop (k + 1)) by rw [HFS.out, HP.out, HA2.out])
              by_cases h16 : q = 16
              · have hq16 : ¬ (q : Int) < 16 := by omega
                clear h16
                go_wp2
                exact ⟨⟨k + 1, nx, sl + q, acc2, B2, cap2, by omega, by go_num, rfl, rfl, by omega, by omega, by omega, by omega, by omega, Lib.hid ⟨HQ.out.r, HQ.out.blk, HQ.out.below⟩, HE⟩, by simp [intOf]; omega⟩
              · have hq16 : (q : Int) < 16 := by omega
                go_wp2
                rw [Exit.noGoto_normal]
                go_wp2
                exact ⟨⟨k + 1, nx, sl + q, acc2, B2, cap2, by omega, by go_num, rfl, rfl, by omega, by omega, by omega, by omega, by omega, Lib.hid ⟨HQ.out.r, HQ.out.blk, HQ.out.below⟩, HE⟩, by simp [intOf]; omega⟩
    · obtain rfl : k = l.length := by omega
      have hf := HF.out
      rw [List.drop_length, handF] at hf
      have HF' := Lib.hid hf
      clear hf HF
      go_wp2
      go_ret3
      rw [HF'.out]
      exact ⟨_, rfl, HH.out.r, HH.out.below⟩
end Go.Proofs.Ytekoogedhmhpgaa

