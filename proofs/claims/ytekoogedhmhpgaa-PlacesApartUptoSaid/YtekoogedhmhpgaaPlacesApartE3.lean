/- The walk of the law PlacesApart. -/
import Derived.Test.YtekoogedhmhpgaaPlacesExactE3
import Derived.Test.YtekoogedhmhpgaaPlacesAE3
namespace Go.Proofs.Ytekoogedhmhpgaa
open Go.RowKit Go.Proofs.YtekoogedhmhpgaaW.PrintWords
set_option linter.unusedVariables false
/-- Operation i of a drawn region is taken first: its guard is on. -/
theorem held_on {P : Program} {md : Region.Mode} {l : List Oper} {Q : Exit → Act → World → Prop} {S : World → Prop} (i : Nat) {oi : Oper} {rest : List Oper} {v : Value} {fuel : Nat} {listed : Array Bool} {a : Act} {w : World}
    (hi : l.drop i = oi :: rest) (hb : (Region.noSelect l.toArray && Region.free md l.toArray listed i && (Region.ready md l.toArray listed).contains i) = true) (hQ : ∀ c a w, Q (.panic c) (a.put oi.dst v) w → Q (.panic c) a w)
    (hw : Region.wanted oi (yielded l.toArray a.tmps) = true) (hy : ∀ w, S w → (execOp a.eval oi).run P w = .ok (.value v) w) (hS : S w)
    (h : wpAnyH P md l.toArray Q S fuel (listed.setIfInBounds i true) (a.put oi.dst v) w) : wpAnyH P md l.toArray Q S (fuel + 1) listed a w := by
  simp only [Bool.and_eq_true] at hb
  have hg : l.toArray[i]? = some oi := by
    have : (l.drop i)[0]? = some oi := by rw [hi]; rfl
    simpa using this
  exact wpAnyH_take hg hb.1.1 hb.1.2 hb.2 hQ (Or.inl ⟨hw, hy⟩) hS h
/-- Its guard is off. -/
theorem held_off {P : Program} {md : Region.Mode} {l : List Oper} {Q : Exit → Act → World → Prop} {S : World → Prop} (i : Nat) {oi : Oper} {rest : List Oper} {fuel : Nat} {listed : Array Bool} {a : Act} {w : World}
    (hi : l.drop i = oi :: rest) (hb : (Region.noSelect l.toArray && Region.free md l.toArray listed i && (Region.ready md l.toArray listed).contains i) = true) (hQ : ∀ c a w, Q (.panic c) (a.put oi.dst undef) w → Q (.panic c) a w)
    (hw : Region.wanted oi (yielded l.toArray a.tmps) = false) (hS : S w)
    (h : wpAnyH P md l.toArray Q S fuel (listed.setIfInBounds i true) (a.put oi.dst undef) w) : wpAnyH P md l.toArray Q S (fuel + 1) listed a w := by
  simp only [Bool.and_eq_true] at hb
  have hg : l.toArray[i]? = some oi := by
    have : (l.drop i)[0]? = some oi := by rw [hi]; rfl
    simpa using this
  exact wpAnyH_take hg hb.1.1 hb.1.2 hb.2 hQ (Or.inr ⟨hw, rfl⟩) hS h
set_option maxHeartbeats 8000000 in
set_option maxRecDepth 100000 in
theorem placesApart_ok (A : Option Addr) (c : Nat) (l : List Q.S70) (w : World) (hA : Kd.C Q.k70 w A l.length l) (hl : l.length ≤ 140737488351232) (hL : ∀ x ∈ l, AskOk x) :
    Calls Try.prog 8 #[.slice A l.length c] w (Done w) := by
  have HA := Lib.hid hA
  have HL := Lib.hid hL
  obtain ⟨kw, hkw⟩ := wakes11_f
  have HW := Lib.hid hkw
  clear hA hL hkw
  go_enter Try.func8, Try.ntmps8
  go_wp2_with fail
  go_loopg [3] l.length (fun g i wr => ∃ k : Nat, k ≤ l.length ∧ Hid (g + k = l.length) ∧ i = .int .i64 k ∧ Hid (Below w.heap.size w wr))
  case atStart => exact ⟨0, Nat.zero_le _, Lib.hid (by omega), rfl, Lib.hid (Below.refl _ _)⟩
  case round =>
    obtain ⟨k, hk, HG, rfl, HB⟩ := hrel
    obtain ⟨wo, rfl⟩ : ∃ wo : World, wo = wr := ⟨_, rfl⟩
    by_cases hlt : k < l.length ∧ k < 15
    · obtain ⟨hlt, hk15⟩ := hlt
      have hlt' : (k : Int) < (l.length : Int) := by omega
      obtain ⟨ad, A0, c0, A1, c1, A2, c2, rfl, q0, q1, q2, l0, g0, l1, g1, l2, g2⟩ := Q.at_T70 HA.out k (by omega) hlt'
      have hx : Q.rd_T70 l k ∈ l := by
        unfold Q.rd_T70
        rw [List.getD_eq_getElem?_getD, Int.toNat_natCast, List.getElem?_eq_getElem hlt]
        exact List.getElem_mem _
      obtain ⟨ht, hp, hr⟩ := HL.out _ hx
      rw [Int.toNat_natCast] at q0 q1 q2
      replace q0 := pw_cell_below HB.out q0
      replace q1 := pw_cell_below HB.out q1
      replace q2 := pw_cell_below HB.out q2
      clear hx
      generalize Q.rd_T70 l k = x at *
      obtain ⟨T, P, R⟩ := x
      dsimp only at *
      have G0 := Lib.hid (Kd.C_below g0 HB.out)
      have G1 := Lib.hid (Kd.C_below g1 HB.out)
      have G2 := Lib.hid (Kd.C_below g2 HB.out)
      have HT := Lib.hid ht
      clear g0 g1 g2 ht
      obtain ⟨hv, hhv⟩ := heavy_ev T HT.out
      obtain ⟨kh, hkh⟩ := hhv.rounds
      have HH := Lib.hid hkh
      clear hhv hkh
      cases hv with
      | true =>
        go_wp2_with fail
        refine (Q.gantrylaw7_Heavy.calls kh A0 c0 T true _ (Kd.C_below G0.out ((Below.refl _ _).alloc (Nat.le_refl _) _)) l0 HH.out).mono ?_
        rintro e w2 ⟨rfl, ⟨nq, rfl⟩⟩
        have B2 := Lib.hid (pw_below_drewN (HB.out.alloc HB.out.size (.cells #[.slice A0 T.length c0, .slice A1 P.length c1, .slice A2 R.length c2] 70)) nq)
        go_wp2
        go_ret
        exact ⟨rfl, B2.out⟩
      | false =>
        by_cases hlen : P.length ≤ 100 ∧ R.length ≤ 100
        · obtain ⟨hlp, hlr⟩ := hlen
          go_wp2_with fail
          refine (Q.gantrylaw7_Heavy.calls kh A0 c0 T false _ (Kd.C_below G0.out ((Below.refl _ _).alloc (Nat.le_refl _) _)) l0 HH.out).mono ?_
          rintro e w2 ⟨rfl, ⟨nq, rfl⟩⟩
          have B2 := Lib.hid (pw_below_drewN (HB.out.alloc HB.out.size (.cells #[.slice A0 T.length c0, .slice A1 P.length c1, .slice A2 R.length c2] 70)) nq)
          have X2 := Lib.hid (show ((wo.alloc (.cells #[.slice A0 T.length c0, .slice A1 P.length c1, .slice A2 R.length c2] 70)).drewN nq).heap[wo.heap.size]? = _ from Deep.blk_alloc_new _ _)
          have W2 := Lib.hid (pw_below_drewN ((Below.refl wo.heap.size wo).alloc (Nat.le_refl _) (.cells #[.slice A0 T.length c0, .slice A1 P.length c1, .slice A2 R.length c2] 70)) nq)
          clear q0 q1 q2
          generalize (wo.alloc (.cells #[.slice A0 T.length c0, .slice A1 P.length c1, .slice A2 R.length c2] 70)).drewN nq = w2 at *
          have x0 := lblk_cell X2.out 0
          have x1 := lblk_cell X2.out 1
          have x2 := lblk_cell X2.out 2
          simp only [List.getElem?_toArray, List.getElem?_cons_succ, List.getElem?_cons_zero] at x0 x1 x2
          have hw2 := (Array.getElem?_eq_some_iff.1 X2.out).1
          have KS := Lib.hid (show ∀ w' w'' : World, (w'.cell? ⟨wo.heap.size, 0, none⟩ = some (.slice A0 T.length c0) ∧ w'.cell? ⟨wo.heap.size, 1, none⟩ = some (.slice A1 P.length c1) ∧ w'.cell? ⟨wo.heap.size, 2, none⟩ = some (.slice A2 R.length c2) ∧ Hid (Below w2.heap.size w2 w')) → Below w'.heap.size w' w'' → (w''.cell? ⟨wo.heap.size, 0, none⟩ = some (.slice A0 T.length c0) ∧ w''.cell? ⟨wo.heap.size, 1, none⟩ = some (.slice A1 P.length c1) ∧ w''.cell? ⟨wo.heap.size, 2, none⟩ = some (.slice A2 R.length c2) ∧ Hid (Below w2.heap.size w2 w'')) from fun w' w'' h hb => ⟨pw_cell_below hb h.1, pw_cell_below hb h.2.1, pw_cell_below hb h.2.2.1, Lib.hid (h.2.2.2.out.trans (hb.mono h.2.2.2.out.size))⟩)
          have KT := Lib.hid (show ∀ (w' : World) (g : Nat) (v0 v1 v2 : Value), (w'.cell? ⟨wo.heap.size, 0, none⟩ = some (.slice A0 T.length c0) ∧ w'.cell? ⟨wo.heap.size, 1, none⟩ = some (.slice A1 P.length c1) ∧ w'.cell? ⟨wo.heap.size, 2, none⟩ = some (.slice A2 R.length c2) ∧ Hid (Below w2.heap.size w2 w')) → w2.heap.size ≤ g → ((((w'.setCell ⟨g, 0, none⟩ v0).setCell ⟨g, 1, none⟩ v1).setCell ⟨g, 2, none⟩ v2).cell? ⟨wo.heap.size, 0, none⟩ = some (.slice A0 T.length c0) ∧ (((w'.setCell ⟨g, 0, none⟩ v0).setCell ⟨g, 1, none⟩ v1).setCell ⟨g, 2, none⟩ v2).cell? ⟨wo.heap.size, 1, none⟩ = some (.slice A1 P.length c1) ∧ (((w'.setCell ⟨g, 0, none⟩ v0).setCell ⟨g, 1, none⟩ v1).setCell ⟨g, 2, none⟩ v2).cell? ⟨wo.heap.size, 2, none⟩ = some (.slice A2 R.length c2) ∧ Hid (Below w2.heap.size w2 (((w'.setCell ⟨g, 0, none⟩ v0).setCell ⟨g, 1, none⟩ v1).setCell ⟨g, 2, none⟩ v2))) from fun w' g v0 v1 v2 h hg => by
            have hb := ((h.2.2.2.out.setCell (p := ⟨g, 0, none⟩) hg v0).setCell (p := ⟨g, 1, none⟩) hg v1).setCell (p := ⟨g, 2, none⟩) hg v2
            exact ⟨(hb.cell (p := ⟨wo.heap.size, 0, none⟩) hw2).trans x0, (hb.cell (p := ⟨wo.heap.size, 1, none⟩) hw2).trans x1, (hb.cell (p := ⟨wo.heap.size, 2, none⟩) hw2).trans x2, Lib.hid hb⟩)
          have J0 := Lib.hid (Kd.C_below G0.out W2.out)
          have J1 := Lib.hid (Kd.C_below G1.out W2.out)
          have J2 := Lib.hid (Kd.C_below G2.out W2.out)
          obtain ⟨kc, hkc⟩ := (copyTypes_ev T HT.out).rounds
          obtain ⟨ka, hka⟩ := (abiPlaces_ev HT.out P R).rounds
          obtain ⟨kr, hkr⟩ := (refPlaces_ev HT.out P R hlp hlr).rounds
          have KA := Lib.hid hka
          have KR := Lib.hid hkr
          have HC := Lib.hid hkc
          have HLN := Lib.hid (placesR_len T P R)
          have HOK := Lib.hid (fun (a b : List Place) (s : Int) (h : placesR T P R = (a, b, s, 0)) => apart_ok HT.out P R h)
          clear hkc hka hkr
          have CT := Lib.hid (show ∀ w' : World, (w'.cell? ⟨wo.heap.size, 0, none⟩ = some (.slice A0 T.length c0) ∧ w'.cell? ⟨wo.heap.size, 1, none⟩ = some (.slice A1 P.length c1) ∧ w'.cell? ⟨wo.heap.size, 2, none⟩ = some (.slice A2 R.length c2) ∧ Hid (Below w2.heap.size w2 w')) → Calls Try.prog 27 #[.slice A0 T.length c0] w' fun e w'' => ∃ At ct, e = .returned (.slice At T.length ct) ∧ Hid (Kd.C Q.k124 w'' At T.length T ∧ T.length ≤ ct) ∧ Hid (Below w'.heap.size w' w'') from fun w' h =>
            (Q.gantryref0_CopyTypes.calls kc A0 c0 T T w' (Kd.C_below J0.out h.2.2.2.out) l0 HC.out).mono fun e w'' hq => by
              obtain ⟨v, rfl, hr, hb⟩ := hq
              obtain ⟨At, ct, rfl, hct, hCt⟩ := Kd.S_reads hr
              exact ⟨At, ct, rfl, Lib.hid ⟨hCt, hct⟩, Lib.hid hb⟩)
          have CP := Lib.hid (show ∀ w' : World, (w'.cell? ⟨wo.heap.size, 0, none⟩ = some (.slice A0 T.length c0) ∧ w'.cell? ⟨wo.heap.size, 1, none⟩ = some (.slice A1 P.length c1) ∧ w'.cell? ⟨wo.heap.size, 2, none⟩ = some (.slice A2 R.length c2) ∧ Hid (Below w2.heap.size w2 w')) → Calls Try.prog 38 #[.slice A1 P.length c1] w' fun e w'' => ∃ Ap cp, e = .returned (.slice Ap P.length cp) ∧ Hid (IntsAt w'' Ap P ∧ P.length ≤ cp) ∧ Hid (Below w'.heap.size w' w'') from fun w' h =>
            (Q.gantryref0_CopyNumbers.calls A1 c1 P P w' (Kd.C_below J1.out h.2.2.2.out) l1 (copyN_f P hp)).mono fun e w'' hq => by
              obtain ⟨v, rfl, hr, hb⟩ := hq
              obtain ⟨Ap, cp, rfl⟩ := Kd.R_slice hr
              exact ⟨Ap, cp, rfl, Lib.hid ⟨(Kd.R_reads' hr).2.2, (Kd.R_reads' hr).2.1⟩, Lib.hid hb⟩)
          have CR := Lib.hid (show ∀ w' : World, (w'.cell? ⟨wo.heap.size, 0, none⟩ = some (.slice A0 T.length c0) ∧ w'.cell? ⟨wo.heap.size, 1, none⟩ = some (.slice A1 P.length c1) ∧ w'.cell? ⟨wo.heap.size, 2, none⟩ = some (.slice A2 R.length c2) ∧ Hid (Below w2.heap.size w2 w')) → Calls Try.prog 38 #[.slice A2 R.length c2] w' fun e w'' => ∃ Ar cr, e = .returned (.slice Ar R.length cr) ∧ Hid (IntsAt w'' Ar R ∧ R.length ≤ cr) ∧ Hid (Below w'.heap.size w' w'') from fun w' h =>
            (Q.gantryref0_CopyNumbers.calls A2 c2 R R w' (Kd.C_below J2.out h.2.2.2.out) l2 (copyN_f R hr)).mono fun e w'' hq => by
              obtain ⟨v, rfl, hr, hb⟩ := hq
              obtain ⟨Ap, cp, rfl⟩ := Kd.R_slice hr
              exact ⟨Ap, cp, rfl, Lib.hid ⟨(Kd.R_reads' hr).2.2, (Kd.R_reads' hr).2.1⟩, Lib.hid hb⟩)
          have CA := Lib.hid (show ∀ (w' : World) (At Ap Ar : Option Addr) (ct cp cr : Nat), (w'.cell? ⟨wo.heap.size, 0, none⟩ = some (.slice A0 T.length c0) ∧ w'.cell? ⟨wo.heap.size, 1, none⟩ = some (.slice A1 P.length c1) ∧ w'.cell? ⟨wo.heap.size, 2, none⟩ = some (.slice A2 R.length c2) ∧ Hid (Below w2.heap.size w2 w')) → (Kd.C Q.k124 w' At T.length T ∧ T.length ≤ ct) → (IntsAt w' Ap P ∧ P.length ≤ cp) → (IntsAt w' Ar R ∧ R.length ≤ cr) → Calls Try.prog 37 #[.slice At T.length ct, .slice Ap P.length cp, .slice Ar R.length cr] w' fun e w'' => ∃ Aa ca Ab cb, e = .returned (.tuple #[.agg #[.slice Aa (placesR T P R).1.length ca, .slice Ab (placesR T P R).2.1.length cb, .int .i64 (placesR T P R).2.2.1], .int .i64 (placesR T P R).2.2.2]) ∧ Hid (TwoR w'' w2.heap.size (.slice Aa (placesR T P R).1.length ca) (.slice Ab (placesR T P R).2.1.length cb) (placesR T P R).1 (placesR T P R).2.1) ∧ Hid (Below w'.heap.size w' w'') from fun w' At Ap Ar ct cp cr h h0 h1 h2 =>
            (Q.abi_Places.calls ka At ct T Ap cp P Ar cr R _ _ _ _ w' h0.1 h0.2 h1.1 h1.2 h2.1 h2.2 KA.out).mono fun e w'' hq => by
              obtain ⟨va, vb, rfl, hra, hrb, hb⟩ := hq
              obtain ⟨Aa, ca, rfl⟩ := Kd.R_slice hra
              obtain ⟨Ab, cb, rfl⟩ := Kd.R_slice hrb
              exact ⟨Aa, ca, Ab, cb, rfl, Lib.hid ⟨Kd.R_lower hra h.2.2.2.out.size, Kd.R_lower hrb h.2.2.2.out.size⟩, Lib.hid hb⟩)
          generalize placesR T P R = res at *
          obtain ⟨ra, rb, rs, re⟩ := res
          dsimp only at CA
          go_upto_region 7 with (fail)
          go_cut [5, 6] (fun s5 s6 wc => ∃ g Aa ca Ab cb, s5 = .pointer (some ⟨g, 0, none⟩) ∧ s6 = .int .i64 re ∧ Hid (AsgAt w2 wc g (.slice Aa ra.length ca) (.slice Ab rb.length cb) ra rb rs))
          case first =>
            as_aux_lemma =>
            have hS0 : (w2.cell? ⟨wo.heap.size, 0, none⟩ = some (.slice A0 T.length c0) ∧ w2.cell? ⟨wo.heap.size, 1, none⟩ = some (.slice A1 P.length c1) ∧ w2.cell? ⟨wo.heap.size, 2, none⟩ = some (.slice A2 R.length c2) ∧ Hid (Below w2.heap.size w2 w2)) := ⟨x0, x1, x2, Lib.hid (Below.refl _ _)⟩
            go_region_held3 (fun w' => w'.cell? ⟨wo.heap.size, 0, none⟩ = some (.slice A0 T.length c0) ∧ w'.cell? ⟨wo.heap.size, 1, none⟩ = some (.slice A1 P.length c1) ∧ w'.cell? ⟨wo.heap.size, 2, none⟩ = some (.slice A2 R.length c2) ∧ Hid (Below w2.heap.size w2 w'))
              (first
                | exact KS.out w2 _ hS0 (Below.refl _ _).drew
                | exact KS.out w2 _ hS0 ((Below.refl _ _).alloc (Nat.le_refl _) _).drew
                | (refine KS.out _ _ ?_ hcb''.out; assumption)
                | (refine KS.out _ _ ?_ hcb'.out; assumption)
                | (refine KS.out _ _ ?_ hcb.out; assumption)
                | (refine KS.out _ _ ?_ hca.out; assumption)
                | (refine KS.out _ _ ?_ ((Below.refl _ _).alloc (Nat.le_refl _) _); assumption)
                | (refine KT.out _ _ _ _ _ ?_ ?_; assumption; first | omega | (simp; omega))
                | (exact KS.out _ _ S7.out ((Below.refl _ _).alloc (Nat.le_refl _) _)))
              (first
                | (go_simp; go_at_call 27; refine (CT.out _ (by assumption)).mono ?_; rintro e w4 ⟨At, ct, rfl, HCT, hca⟩; (try (have HG0 := Lib.hid ((hca.out.block _ (by simp)).trans (Deep.blk_alloc_new _ _)))); have sz4 : w2.heap.size ≤ w4.heap.size := (KS.out _ _ (by assumption) hca.out).2.2.2.out.size; dsimp only)
                | (go_simp; go_at_call 38; refine (CP.out _ (by assumption)).mono ?_; rintro e w5 ⟨Ap, cp, rfl, HCP, hcb⟩; have HCT5 := Lib.hid (show Kd.C Q.k124 w5 At T.length T ∧ T.length ≤ ct by first | exact ⟨Kd.C_below HCT.out.1 hcb.out, HCT.out.2⟩ | exact ⟨Kd.C_below HCT.out.1 (((Below.refl _ _).alloc (Nat.le_refl _) _).trans (hcb.out.mono (by simp))), HCT.out.2⟩); (first | (have HG := Lib.hid ((hcb.out.block _ (blk_lt HG0.out)).trans HG0.out)) | (have HG := Lib.hid ((hcb.out.block _ (by simp)).trans (Deep.blk_alloc_new _ _))) | skip); have sz5 : w2.heap.size ≤ w5.heap.size := (KS.out _ _ (by assumption) hcb.out).2.2.2.out.size; dsimp only)
                | (go_simp; go_at_call 38; refine (CR.out _ (by assumption)).mono ?_; rintro e w6 ⟨Ar, cr, rfl, HCR, hcb'⟩; have HCP6 := Lib.hid (show (Kd.C Q.k124 w6 At T.length T ∧ T.length ≤ ct) ∧ (IntsAt w6 Ap P ∧ P.length ≤ cp) by first | exact ⟨⟨Kd.C_below HCT5.out.1 hcb'.out, HCT5.out.2⟩, ⟨Kd.C_below HCP.out.1 hcb'.out, HCP.out.2⟩⟩ | exact ⟨⟨Kd.C_below HCT5.out.1 (((Below.refl _ _).alloc (Nat.le_refl _) _).trans (hcb'.out.mono (by simp))), HCT5.out.2⟩, ⟨Kd.C_below HCP.out.1 (((Below.refl _ _).alloc (Nat.le_refl _) _).trans (hcb'.out.mono (by simp))), HCP.out.2⟩⟩); (first | (have HG' := Lib.hid ((hcb'.out.block _ (blk_lt HG.out)).trans HG.out)) | (have HG' := Lib.hid ((hcb'.out.block _ (by simp)).trans (Deep.blk_alloc_new _ _))) | skip); have sz6 : w2.heap.size ≤ w6.heap.size := (KS.out _ _ (by assumption) hcb'.out).2.2.2.out.size; dsimp only)
                | (go_simp; go_at_call 37; refine (CA.out _ At Ap Ar ct cp cr (by assumption) (by first | exact HCP6.out.1 | exact ⟨Kd.C_below HCP6.out.1.1 ((Below.refl _ _).alloc (Nat.le_refl _) _), HCP6.out.1.2⟩) (by first | exact HCP6.out.2 | exact ⟨Kd.C_below HCP6.out.2.1 ((Below.refl _ _).alloc (Nat.le_refl _) _), HCP6.out.2.2⟩) (by first | exact HCR.out | exact ⟨Kd.C_below HCR.out.1 ((Below.refl _ _).alloc (Nat.le_refl _) _), HCR.out.2⟩)).mono ?_; rintro e w7 ⟨Aa, ca, Ab, cb, rfl, HV, hcb''⟩; have S7 := Lib.hid (KS.out _ _ (by assumption) hcb''.out); (first | (have HG'' := Lib.hid ((hcb''.out.block _ (blk_lt HG'.out)).trans HG'.out)) | (have HG'' := Lib.hid ((hcb''.out.block _ (by simp)).trans (Deep.blk_alloc_new _ _))) | skip); (try (have e0 := lblk_cell HG''.out 0; have e1 := lblk_cell HG''.out 1; have e2 := lblk_cell HG''.out 2; have z0 := blk_fz HG''.out 0; have z1 := blk_fz HG''.out 1; have z2 := blk_fz HG''.out 2; simp only [List.getElem?_toArray, List.getElem?_cons_succ, List.getElem?_cons_zero] at e0 e1 e2)); dsimp only))
            all_goals
              go_wp2_with fail
              go_meet
              first
                | exact ⟨_, Aa, ca, Ab, cb, rfl, rfl, Lib.hid (asg_alloc HV.out S7.out.2.2.2.out rs)⟩
                | exact ⟨_, Aa, ca, Ab, cb, rfl, rfl, Lib.hid (asg_set HV.out S7.out.2.2.2.out HG''.out (by first | omega | (simp; omega)) rs)⟩
          case rest =>
            obtain ⟨g, Aa, ca, Ab, cb, rfl, rfl, HAS⟩ := hcut
            have X4 := Lib.hid ((HAS.out.below.block _ hw2).trans X2.out)
            clear x0 x1 x2 KT KS CT CP CR CA
            have x0 := lblk_cell X4.out 0
            have x1 := lblk_cell X4.out 1
            have x2 := lblk_cell X4.out 2
            simp only [List.getElem?_toArray, List.getElem?_cons_succ, List.getElem?_cons_zero] at x0 x1 x2
            have L0 := Lib.hid (Kd.C_below J0.out HAS.out.below)
            have L1 := Lib.hid (Kd.C_below J1.out HAS.out.below)
            have L2 := Lib.hid (Kd.C_below J2.out HAS.out.below)
            have B4 := Lib.hid (B2.out.trans (HAS.out.below.mono B2.out.size))
            go_wp2_with fail
            refine (Q.gantryref11_Places.calls kr A0 c0 T A1 c1 P A2 c2 R ra rb rs re _ L0.out l0 L1.out l1 L2.out l2 KR.out).mono ?_
            rintro e w4 ⟨vc, vd, rfl, hrc, hrd, hb4⟩
            obtain ⟨Ac, cc, rfl⟩ := Kd.R_slice hrc
            obtain ⟨Ad, cd, rfl⟩ := Kd.R_slice hrd
            go_upto_region 9 with (fail)
            have hb5 := hb4.alloc hb4.size (.cells #[.slice Ac ra.length cc, .slice Ad rb.length cd, .int .i64 rs] 73)
            have A5 := Lib.hid (show AsgAt w2 (w4.alloc (.cells #[.slice Ac ra.length cc, .slice Ad rb.length cd, .int .i64 rs] 73)) g (.slice Aa ra.length ca) (.slice Ab rb.length cb) ra rb rs from ⟨(hb5.block _ (Array.getElem?_eq_some_iff.1 HAS.out.blk).1).trans HAS.out.blk, HAS.out.ge, HAS.out.two.below hb5, HAS.out.below.trans (hb5.mono HAS.out.below.size)⟩)
            have X5 := Lib.hid ((hb5.block _ (Array.getElem?_eq_some_iff.1 X4.out).1).trans X4.out)
            have K0 := Lib.hid (Kd.C_below L0.out hb5)
            have K1 := Lib.hid (Kd.C_below L1.out hb5)
            have K2 := Lib.hid (Kd.C_below L2.out hb5)
            have B5 := Lib.hid (B4.out.trans (hb5.mono B4.out.size))
            clear hrc hrd hb4 hb5 x0 x1 x2 L0 L1 L2 X4 HAS B4 J0 J1 J2 KR KA HC HH
            generalize w4.alloc (.cells #[.slice Ac ra.length cc, .slice Ad rb.length cd, .int .i64 rs] 73) = w5 at *
            by_cases hre : re = 0
            · subst hre
              go_wp2_with fail
              refine (Q.gantrylaw11_num.calls 0 0 _ rfl).mono ?_
              rintro e w6 ⟨rfl, ⟨n1, rfl⟩⟩
              go_upto_region 10 with (fail)
              have OK := Lib.hid (HOK.out ra rb rs rfl)
              obtain ⟨k1, hk1⟩ := OK.out.ca.rounds
              obtain ⟨k2, hk2⟩ := OK.out.cb.rounds
              obtain ⟨k3, hk3⟩ := OK.out.pa.rounds
              obtain ⟨k4, hk4⟩ := OK.out.pb.rounds
              have x0 := lblk_cell X5.out 0
              have x1 := lblk_cell X5.out 1
              have x2 := lblk_cell X5.out 2
              have a0 := lblk_cell A5.out.blk 0
              have a1 := lblk_cell A5.out.blk 1
              have a2 := lblk_cell A5.out.blk 2
              simp only [List.getElem?_toArray, List.getElem?_cons_succ, List.getElem?_cons_zero] at x0 x1 x2 a0 a1 a2
              have hD := pw_below_drewN (Below.refl w5.heap.size w5) n1
              have hS0 : ((w5.drewN n1).cell? ⟨wo.heap.size, 0, none⟩ = some (.slice A0 T.length c0) ∧ (w5.drewN n1).cell? ⟨wo.heap.size, 1, none⟩ = some (.slice A1 P.length c1) ∧ (w5.drewN n1).cell? ⟨wo.heap.size, 2, none⟩ = some (.slice A2 R.length c2) ∧ (w5.drewN n1).cell? ⟨g, 0, none⟩ = some (.slice Aa ra.length ca) ∧ (w5.drewN n1).cell? ⟨g, 1, none⟩ = some (.slice Ab rb.length cb) ∧ (w5.drewN n1).cell? ⟨g, 2, none⟩ = some (.int .i64 rs) ∧ Hid (Below w5.heap.size w5 (w5.drewN n1))) := ⟨pw_cell_below hD x0, pw_cell_below hD x1, pw_cell_below hD x2, pw_cell_below hD a0, pw_cell_below hD a1, pw_cell_below hD a2, Lib.hid hD⟩
              have KS := Lib.hid (show ∀ w' w'' : World, (w'.cell? ⟨wo.heap.size, 0, none⟩ = some (.slice A0 T.length c0) ∧ w'.cell? ⟨wo.heap.size, 1, none⟩ = some (.slice A1 P.length c1) ∧ w'.cell? ⟨wo.heap.size, 2, none⟩ = some (.slice A2 R.length c2) ∧ w'.cell? ⟨g, 0, none⟩ = some (.slice Aa ra.length ca) ∧ w'.cell? ⟨g, 1, none⟩ = some (.slice Ab rb.length cb) ∧ w'.cell? ⟨g, 2, none⟩ = some (.int .i64 rs) ∧ Hid (Below w5.heap.size w5 w')) → Below w'.heap.size w' w'' → (w''.cell? ⟨wo.heap.size, 0, none⟩ = some (.slice A0 T.length c0) ∧ w''.cell? ⟨wo.heap.size, 1, none⟩ = some (.slice A1 P.length c1) ∧ w''.cell? ⟨wo.heap.size, 2, none⟩ = some (.slice A2 R.length c2) ∧ w''.cell? ⟨g, 0, none⟩ = some (.slice Aa ra.length ca) ∧ w''.cell? ⟨g, 1, none⟩ = some (.slice Ab rb.length cb) ∧ w''.cell? ⟨g, 2, none⟩ = some (.int .i64 rs) ∧ Hid (Below w5.heap.size w5 w'')) from fun w' w'' h hb => ⟨pw_cell_below hb h.1, pw_cell_below hb h.2.1, pw_cell_below hb h.2.2.1, pw_cell_below hb h.2.2.2.1, pw_cell_below hb h.2.2.2.2.1, pw_cell_below hb h.2.2.2.2.2.1, Lib.hid (h.2.2.2.2.2.2.out.trans (hb.mono h.2.2.2.2.2.2.out.size))⟩)
              have C1 := Lib.hid (show ∀ w' : World, (w'.cell? ⟨wo.heap.size, 0, none⟩ = some (.slice A0 T.length c0) ∧ w'.cell? ⟨wo.heap.size, 1, none⟩ = some (.slice A1 P.length c1) ∧ w'.cell? ⟨wo.heap.size, 2, none⟩ = some (.slice A2 R.length c2) ∧ w'.cell? ⟨g, 0, none⟩ = some (.slice Aa ra.length ca) ∧ w'.cell? ⟨g, 1, none⟩ = some (.slice Ab rb.length cb) ∧ w'.cell? ⟨g, 2, none⟩ = some (.int .i64 rs) ∧ Hid (Below w5.heap.size w5 w')) → Calls Try.prog 44 #[.slice A0 T.length c0, .slice A1 P.length c1] w' fun e w'' => e = .returned (.int .i64 ra.length) ∧ Hid (Below w'.heap.size w' w'') from fun w' h =>
                (Q.gantrylaw11_count.calls k1 A0 c0 T A1 c1 P _ w' (Kd.C_below K0.out h.2.2.2.2.2.2.out) l0 (Kd.C_below K1.out h.2.2.2.2.2.2.out) l1 hk1).mono fun e w'' hq => ⟨hq.1, Lib.hid hq.2⟩)
              have C2 := Lib.hid (show ∀ w' : World, (w'.cell? ⟨wo.heap.size, 0, none⟩ = some (.slice A0 T.length c0) ∧ w'.cell? ⟨wo.heap.size, 1, none⟩ = some (.slice A1 P.length c1) ∧ w'.cell? ⟨wo.heap.size, 2, none⟩ = some (.slice A2 R.length c2) ∧ w'.cell? ⟨g, 0, none⟩ = some (.slice Aa ra.length ca) ∧ w'.cell? ⟨g, 1, none⟩ = some (.slice Ab rb.length cb) ∧ w'.cell? ⟨g, 2, none⟩ = some (.int .i64 rs) ∧ Hid (Below w5.heap.size w5 w')) → Calls Try.prog 44 #[.slice A0 T.length c0, .slice A2 R.length c2] w' fun e w'' => e = .returned (.int .i64 rb.length) ∧ Hid (Below w'.heap.size w' w'') from fun w' h =>
                (Q.gantrylaw11_count.calls k2 A0 c0 T A2 c2 R _ w' (Kd.C_below K0.out h.2.2.2.2.2.2.out) l0 (Kd.C_below K2.out h.2.2.2.2.2.2.out) l2 hk2).mono fun e w'' hq => ⟨hq.1, Lib.hid hq.2⟩)
              have C3 := Lib.hid (show ∀ w' : World, (w'.cell? ⟨wo.heap.size, 0, none⟩ = some (.slice A0 T.length c0) ∧ w'.cell? ⟨wo.heap.size, 1, none⟩ = some (.slice A1 P.length c1) ∧ w'.cell? ⟨wo.heap.size, 2, none⟩ = some (.slice A2 R.length c2) ∧ w'.cell? ⟨g, 0, none⟩ = some (.slice Aa ra.length ca) ∧ w'.cell? ⟨g, 1, none⟩ = some (.slice Ab rb.length cb) ∧ w'.cell? ⟨g, 2, none⟩ = some (.int .i64 rs) ∧ Hid (Below w5.heap.size w5 w')) → Calls Try.prog 45 #[.slice Aa ra.length ca] w' fun e w'' => e = .returned (.bool true) ∧ Hid (Below w'.heap.size w' w'') from fun w' h =>
                (Q.gantrylaw11_apart.calls k3 Aa ca ra true w' (Kd.C_below (Kd.R_reads' A5.out.two.a).2.2 h.2.2.2.2.2.2.out) (Kd.R_reads' A5.out.two.a).2.1 hk3).mono fun e w'' hq => ⟨hq.1, Lib.hid (by obtain ⟨n, rfl⟩ := hq.2; exact pw_below_drewN (Below.refl _ _) n)⟩)
              have C4 := Lib.hid (show ∀ w' : World, (w'.cell? ⟨wo.heap.size, 0, none⟩ = some (.slice A0 T.length c0) ∧ w'.cell? ⟨wo.heap.size, 1, none⟩ = some (.slice A1 P.length c1) ∧ w'.cell? ⟨wo.heap.size, 2, none⟩ = some (.slice A2 R.length c2) ∧ w'.cell? ⟨g, 0, none⟩ = some (.slice Aa ra.length ca) ∧ w'.cell? ⟨g, 1, none⟩ = some (.slice Ab rb.length cb) ∧ w'.cell? ⟨g, 2, none⟩ = some (.int .i64 rs) ∧ Hid (Below w5.heap.size w5 w')) → Calls Try.prog 45 #[.slice Ab rb.length cb] w' fun e w'' => e = .returned (.bool true) ∧ Hid (Below w'.heap.size w' w'') from fun w' h =>
                (Q.gantrylaw11_apart.calls k4 Ab cb rb true w' (Kd.C_below (Kd.R_reads' A5.out.two.b).2.2 h.2.2.2.2.2.2.out) (Kd.R_reads' A5.out.two.b).2.1 hk4).mono fun e w'' hq => ⟨hq.1, Lib.hid (by obtain ⟨n, rfl⟩ := hq.2; exact pw_below_drewN (Below.refl _ _) n)⟩)
              clear x0 x1 x2 a0 a1 a2 hk1 hk2 hk3 hk4 hD
              as_aux_lemma =>
              generalize w5.drewN n1 = w6 at *
              go_region_held3 (fun w' => w'.cell? ⟨wo.heap.size, 0, none⟩ = some (.slice A0 T.length c0) ∧ w'.cell? ⟨wo.heap.size, 1, none⟩ = some (.slice A1 P.length c1) ∧ w'.cell? ⟨wo.heap.size, 2, none⟩ = some (.slice A2 R.length c2) ∧ w'.cell? ⟨g, 0, none⟩ = some (.slice Aa ra.length ca) ∧ w'.cell? ⟨g, 1, none⟩ = some (.slice Ab rb.length cb) ∧ w'.cell? ⟨g, 2, none⟩ = some (.int .i64 rs) ∧ Hid (Below w5.heap.size w5 w'))
                (first
                  | exact KS.out w6 _ hS0 (Below.refl _ _).drew
                  | (refine KS.out _ _ ?_ hcb.out; assumption))
                (first
                  | (go_simp; go_at_call 44; with_reducible refine (C1.out _ (by assumption)).mono ?_; rintro e w7 ⟨rfl, hcb⟩; dsimp only)
                  | (go_simp; go_at_call 44; with_reducible refine (C2.out _ (by assumption)).mono ?_; rintro e w7 ⟨rfl, hcb⟩; dsimp only)
                  | (go_simp; go_at_call 45; with_reducible refine (C3.out _ (by assumption)).mono ?_; rintro e w7 ⟨rfl, hcb⟩; dsimp only)
                  | (go_simp; go_at_call 45; with_reducible refine (C4.out _ (by assumption)).mono ?_; rintro e w7 ⟨rfl, hcb⟩; dsimp only))
              have S7 := Lib.hid (show (w7.cell? ⟨wo.heap.size, 0, none⟩ = some (.slice A0 T.length c0) ∧ w7.cell? ⟨wo.heap.size, 1, none⟩ = some (.slice A1 P.length c1) ∧ w7.cell? ⟨wo.heap.size, 2, none⟩ = some (.slice A2 R.length c2) ∧ w7.cell? ⟨g, 0, none⟩ = some (.slice Aa ra.length ca) ∧ w7.cell? ⟨g, 1, none⟩ = some (.slice Ab rb.length cb) ∧ w7.cell? ⟨g, 2, none⟩ = some (.int .i64 rs) ∧ Hid (Below w5.heap.size w5 w7)) by assumption)
              clear C1 C2 C3 C4
              have hA7 := Kd.C_below (Kd.R_reads' A5.out.two.a).2.2 S7.out.2.2.2.2.2.2.out
              have hB7 := Kd.C_below (Kd.R_reads' A5.out.two.b).2.2 S7.out.2.2.2.2.2.2.out
              have HA7 := Lib.hid hA7
              have HB7 := Lib.hid hB7
              clear hA7 hB7
              go_wp2_with fail
              as_aux_lemma =>
              go_loopw [9, 10] (fun v9 v10 wr => ∃ q : Nat, q ≤ ra.length ∧ v10 = .int .i64 q ∧ v9 = .int .i64 (stackN (ra.take q) : Nat) ∧ wr = w7) (fun _ i _ => ra.length - (intOf i).toNat)
              case atStart => exact ⟨0, Nat.zero_le _, rfl, rfl, rfl⟩
              case round =>
                obtain ⟨q, hq, rfl, rfl, rfl⟩ := hrel
                have a0 := S7.out.2.2.2.1
                have hla := HLN.out.1
                have hsn := stackN_le (ra.take q)
                rw [List.length_take] at hsn
                by_cases hqn : q < ra.length
                · have hqn' : (q : Int) < (ra.length : Int) := by omega
                  obtain ⟨ap, rfl, p0, p1⟩ := Q.at_T85 HA7.out q (by omega) hqn'
                  rw [Int.toNat_natCast] at p0 p1
                  have hst := stackN_rd ra hqn
                  generalize Q.rd_T85 ra q = pl at *
                  obtain ⟨b, n⟩ := pl
                  dsimp only at p0 p1 hst
                  generalize stackN (ra.take q) = sn at *
                  cases b with
                  | true =>
                    as_aux_lemma =>
                    go_wp2
                    go_roundw
                    case rel => exact ⟨q + 1, by omega, by go_num, by rw [hst]; go_num, by first | rfl | trivial⟩
                    case measure => simp [intOf]; omega
                  | false =>
                    as_aux_lemma =>
                    go_wp2
                    go_roundw
                    case rel => exact ⟨q + 1, by omega, by go_num, by rw [hst]; go_num, by first | rfl | trivial⟩
                    case measure => simp [intOf]; omega
                · obtain rfl : q = ra.length := by omega
                  rw [List.take_length] at *
                  go_wp2_with fail
                  generalize hsn3 : stackN ra = sn at *
                  as_aux_lemma =>
                  go_loopw [11] (fun v11 wr => ∃ q : Nat, q ≤ rb.length ∧ v11 = .int .i64 q ∧ Hid (wr.cell? ⟨wo.heap.size, 0, none⟩ = some (.slice A0 T.length c0) ∧ wr.cell? ⟨wo.heap.size, 1, none⟩ = some (.slice A1 P.length c1) ∧ wr.cell? ⟨wo.heap.size, 2, none⟩ = some (.slice A2 R.length c2) ∧ wr.cell? ⟨g, 0, none⟩ = some (.slice Aa ra.length ca) ∧ wr.cell? ⟨g, 1, none⟩ = some (.slice Ab rb.length cb) ∧ wr.cell? ⟨g, 2, none⟩ = some (.int .i64 rs) ∧ Hid (Below w5.heap.size w5 wr))) (fun i _ => rb.length - (intOf i).toNat)
                  case atStart => exact ⟨0, Nat.zero_le _, rfl, S7⟩
                  case round =>
                    obtain ⟨q, hq, rfl, HS⟩ := hrel
                    obtain ⟨wq, rfl⟩ : ∃ wq : World, wq = wr := ⟨_, rfl⟩
                    have b1 := HS.out.2.2.2.2.1
                    have b2 := HS.out.2.2.2.2.2.1
                    have hlb := HLN.out.2
                    by_cases hqn : q < rb.length
                    · have hqn' : (q : Int) < (rb.length : Int) := by omega
                      obtain ⟨ap, rfl, p0, p1⟩ := Q.at_T85 (Kd.C_below (Kd.R_reads' A5.out.two.b).2.2 HS.out.2.2.2.2.2.2.out) q (by omega) hqn'
                      rw [Int.toNat_natCast] at p0 p1
                      have hsl := OK.out.sl _ (rdP_mem hqn)
                      rw [hsn3] at hsl
                      generalize Q.rd_T85 rb q = pl at *
                      obtain ⟨b, n⟩ := pl
                      dsimp only at p0 p1 hsl
                      cases b with
                      | true =>
                        as_aux_lemma =>
                        obtain ⟨hs1, hs2⟩ := hsl rfl
                        have hs3 : ¬ n < (sn : Int) := by omega
                        have hs4 : ¬ rs ≤ n := by omega
                        clear hsl
                        go_upto_region 21 with (fail)
                        go_region_held3 (fun w' => w'.cell? ⟨g, 1, none⟩ = some (.slice (some ap) rb.length cb) ∧ w'.cell? ⟨g, 2, none⟩ = some (.int .i64 rs) ∧ w'.cell? (ap.add (q * 2)) = some (.bool true) ∧ w'.cell? ⟨(ap.add (q * 2)).block, (ap.add (q * 2)).off + 1, none⟩ = some (.int .i64 n))
                          (exact ⟨pw_cell_below (Below.refl wq.heap.size wq).drew b1, pw_cell_below (Below.refl wq.heap.size wq).drew b2, pw_cell_below (Below.refl wq.heap.size wq).drew p0, pw_cell_below (Below.refl wq.heap.size wq).drew p1⟩)
                          (fail)
                        go_wp2
                        go_roundw
                        case rel => exact ⟨q + 1, by omega, by go_num, Lib.hid (KS.out _ _ HS.out (Below.refl _ _).drew)⟩
                        case measure => simp [intOf]; omega
                      | false =>
                        as_aux_lemma =>
                        clear hsl
                        go_upto_region 21 with (fail)
                        refine wp_region_noPanic ?_
                        refine wp_region_held_drew (S := fun w' => w'.cell? ⟨g, 1, none⟩ = some (.slice (some ap) rb.length cb) ∧ w'.cell? ⟨g, 2, none⟩ = some (.int .i64 rs) ∧ w'.cell? (ap.add (q * 2)) = some (.bool false) ∧ w'.cell? ⟨(ap.add (q * 2)).block, (ap.add (q * 2)).off + 1, none⟩ = some (.int .i64 n)) (by kernel_rfl) ⟨pw_cell_below (Below.refl wq.heap.size wq).drew b1, pw_cell_below (Below.refl wq.heap.size wq).drew b2, pw_cell_below (Below.refl wq.heap.size wq).drew p0, pw_cell_below (Below.refl wq.heap.size wq).drew p1⟩ (fun hHeld => ?_)
                        refine held_on 0 (v := ?_) rfl (by kernel_rfl) (fun _ _ _ h => h) (by rfl) ?_ (by assumption) ?_
                        rotate_left
                        · intro w hSw
                          try dsimp only at hSw
                          go_simp
                          all_goals with_reducible rfl
                        simp only [Act.put, List.setIfInBounds_toArray, List.set_cons_zero, List.set_cons_succ]
                        refine held_on 1 (v := ?_) rfl (by kernel_rfl) (fun _ _ _ h => h) (by rfl) ?_ (by assumption) ?_
                        rotate_left
                        · intro w hSw
                          try dsimp only at hSw
                          go_simp
                          all_goals with_reducible rfl
                        simp only [Act.put, List.setIfInBounds_toArray, List.set_cons_zero, List.set_cons_succ]
                        refine held_on 2 (v := ?_) rfl (by kernel_rfl) (fun _ _ _ h => h) (by rfl) ?_ (by assumption) ?_
                        rotate_left
                        · intro w hSw
                          try dsimp only at hSw
                          go_simp
                          all_goals with_reducible rfl
                        simp only [Act.put, List.setIfInBounds_toArray, List.set_cons_zero, List.set_cons_succ]
                        refine held_on 3 (v := ?_) rfl (by kernel_rfl) (fun _ _ _ h => h) (by rfl) ?_ (by assumption) ?_
                        rotate_left
                        · intro w hSw
                          try dsimp only at hSw
                          go_simp
                          all_goals with_reducible rfl
                        simp only [Act.put, List.setIfInBounds_toArray, List.set_cons_zero, List.set_cons_succ]
                        refine held_on 4 (v := ?_) rfl (by kernel_rfl) (fun _ _ _ h => h) (by rfl) ?_ (by assumption) ?_
                        rotate_left
                        · intro w hSw
                          try dsimp only at hSw
                          go_simp
                          all_goals with_reducible rfl
                        simp only [Act.put, List.setIfInBounds_toArray, List.set_cons_zero, List.set_cons_succ]
                        refine held_on 5 (v := ?_) rfl (by kernel_rfl) (fun _ _ _ h => h) (by rfl) ?_ (by assumption) ?_
                        rotate_left
                        · intro w hSw
                          try dsimp only at hSw
                          go_simp
                          all_goals with_reducible rfl
                        simp only [Act.put, List.setIfInBounds_toArray, List.set_cons_zero, List.set_cons_succ]
                        refine held_on 6 (v := ?_) rfl (by kernel_rfl) (fun _ _ _ h => h) (by rfl) ?_ (by assumption) ?_
                        rotate_left
                        · intro w hSw
                          try dsimp only at hSw
                          go_simp
                          all_goals with_reducible rfl
                        simp only [Act.put, List.setIfInBounds_toArray, List.set_cons_zero, List.set_cons_succ]
                        refine held_off 7 rfl (by kernel_rfl) (fun _ _ _ h => h) (by rfl) (by assumption) ?_
                        simp only [Act.put, List.setIfInBounds_toArray, List.set_cons_zero, List.set_cons_succ]
                        refine held_off 8 rfl (by kernel_rfl) (fun _ _ _ h => h) (by rfl) (by assumption) ?_
                        simp only [Act.put, List.setIfInBounds_toArray, List.set_cons_zero, List.set_cons_succ]
                        refine held_off 9 rfl (by kernel_rfl) (fun _ _ _ h => h) (by rfl) (by assumption) ?_
                        simp only [Act.put, List.setIfInBounds_toArray, List.set_cons_zero, List.set_cons_succ]
                        refine held_off 10 rfl (by kernel_rfl) (fun _ _ _ h => h) (by rfl) (by assumption) ?_
                        simp only [Act.put, List.setIfInBounds_toArray, List.set_cons_zero, List.set_cons_succ]
                        refine held_off 11 rfl (by kernel_rfl) (fun _ _ _ h => h) (by rfl) (by assumption) ?_
                        simp only [Act.put, List.setIfInBounds_toArray, List.set_cons_zero, List.set_cons_succ]
                        refine held_off 12 rfl (by kernel_rfl) (fun _ _ _ h => h) (by rfl) (by assumption) ?_
                        simp only [Act.put, List.setIfInBounds_toArray, List.set_cons_zero, List.set_cons_succ]
                        refine held_off 13 rfl (by kernel_rfl) (fun _ _ _ h => h) (by rfl) (by assumption) ?_
                        simp only [Act.put, List.setIfInBounds_toArray, List.set_cons_zero, List.set_cons_succ]
                        refine held_off 14 rfl (by kernel_rfl) (fun _ _ _ h => h) (by rfl) (by assumption) ?_
                        simp only [Act.put, List.setIfInBounds_toArray, List.set_cons_zero, List.set_cons_succ]
                        refine held_on 15 (v := ?_) rfl (by kernel_rfl) (fun _ _ _ h => h) (by rfl) ?_ (by assumption) ?_
                        rotate_left
                        · intro w hSw
                          try dsimp only at hSw
                          go_simp
                          all_goals with_reducible rfl
                        simp only [Act.put, List.setIfInBounds_toArray, List.set_cons_zero, List.set_cons_succ]
                        refine held_on 16 (v := ?_) rfl (by kernel_rfl) (fun _ _ _ h => h) (by rfl) ?_ (by assumption) ?_
                        rotate_left
                        · intro w hSw
                          try dsimp only at hSw
                          go_simp
                          all_goals with_reducible rfl
                        simp only [Act.put, List.setIfInBounds_toArray, List.set_cons_zero, List.set_cons_succ]
                        refine held_on 17 (v := ?_) rfl (by kernel_rfl) (fun _ _ _ h => h) (by rfl) ?_ (by assumption) ?_
                        rotate_left
                        · intro w hSw
                          try dsimp only at hSw
                          go_simp
                          all_goals with_reducible rfl
                        simp only [Act.put, List.setIfInBounds_toArray, List.set_cons_zero, List.set_cons_succ]
                        refine held_on 18 (v := ?_) rfl (by kernel_rfl) (fun _ _ _ h => h) (by rfl) ?_ (by assumption) ?_
                        rotate_left
                        · intro w hSw
                          try dsimp only at hSw
                          go_simp
                          all_goals with_reducible rfl
                        simp only [Act.put, List.setIfInBounds_toArray, List.set_cons_zero, List.set_cons_succ]
                        refine held_on 19 (v := ?_) rfl (by kernel_rfl) (fun _ _ _ h => h) (by rfl) ?_ (by assumption) ?_
                        rotate_left
                        · intro w hSw
                          try dsimp only at hSw
                          go_simp
                          all_goals with_reducible rfl
                        simp only [Act.put, List.setIfInBounds_toArray, List.set_cons_zero, List.set_cons_succ]
                        refine held_on 20 (v := ?_) rfl (by kernel_rfl) (fun _ _ _ h => h) (by rfl) ?_ (by assumption) ?_
                        rotate_left
                        · intro w hSw
                          try dsimp only at hSw
                          go_simp
                          all_goals with_reducible rfl
                        simp only [Act.put, List.setIfInBounds_toArray, List.set_cons_zero, List.set_cons_succ]
                        refine held_on 21 (v := ?_) rfl (by kernel_rfl) (fun _ _ _ h => h) (by rfl) ?_ (by assumption) ?_
                        rotate_left
                        · intro w hSw
                          try dsimp only at hSw
                          go_simp
                          all_goals with_reducible rfl
                        simp only [Act.put, List.setIfInBounds_toArray, List.set_cons_zero, List.set_cons_succ]
                        refine held_on 22 (v := ?_) rfl (by kernel_rfl) (fun _ _ _ h => h) (by rfl) ?_ (by assumption) ?_
                        rotate_left
                        · intro w hSw
                          try dsimp only at hSw
                          go_simp
                          all_goals with_reducible rfl
                        simp only [Act.put, List.setIfInBounds_toArray, List.set_cons_zero, List.set_cons_succ]
                        refine held_on 23 (v := ?_) rfl (by kernel_rfl) (fun _ _ _ h => h) (by rfl) ?_ (by assumption) ?_
                        rotate_left
                        · intro w hSw
                          try dsimp only at hSw
                          go_simp
                          all_goals with_reducible rfl
                        simp only [Act.put, List.setIfInBounds_toArray, List.set_cons_zero, List.set_cons_succ]
                        refine held_off 24 rfl (by kernel_rfl) (fun _ _ _ h => h) (by rfl) (by assumption) ?_
                        simp only [Act.put, List.setIfInBounds_toArray, List.set_cons_zero, List.set_cons_succ]
                        refine held_off 25 rfl (by kernel_rfl) (fun _ _ _ h => h) (by rfl) (by assumption) ?_
                        simp only [Act.put, List.setIfInBounds_toArray, List.set_cons_zero, List.set_cons_succ]
                        refine held_off 26 rfl (by kernel_rfl) (fun _ _ _ h => h) (by rfl) (by assumption) ?_
                        simp only [Act.put, List.setIfInBounds_toArray, List.set_cons_zero, List.set_cons_succ]
                        refine held_off 27 rfl (by kernel_rfl) (fun _ _ _ h => h) (by rfl) (by assumption) ?_
                        simp only [Act.put, List.setIfInBounds_toArray, List.set_cons_zero, List.set_cons_succ]
                        refine held_off 28 rfl (by kernel_rfl) (fun _ _ _ h => h) (by rfl) (by assumption) ?_
                        simp only [Act.put, List.setIfInBounds_toArray, List.set_cons_zero, List.set_cons_succ]
                        refine held_off 29 rfl (by kernel_rfl) (fun _ _ _ h => h) (by rfl) (by assumption) ?_
                        simp only [Act.put, List.setIfInBounds_toArray, List.set_cons_zero, List.set_cons_succ]
                        refine held_off 30 rfl (by kernel_rfl) (fun _ _ _ h => h) (by rfl) (by assumption) ?_
                        simp only [Act.put, List.setIfInBounds_toArray, List.set_cons_zero, List.set_cons_succ]
                        refine held_off 31 rfl (by kernel_rfl) (fun _ _ _ h => h) (by rfl) (by assumption) ?_
                        simp only [Act.put, List.setIfInBounds_toArray, List.set_cons_zero, List.set_cons_succ]
                        refine held_off 32 rfl (by kernel_rfl) (fun _ _ _ h => h) (by rfl) (by assumption) ?_
                        simp only [Act.put, List.setIfInBounds_toArray, List.set_cons_zero, List.set_cons_succ]
                        refine held_on 33 (v := ?_) rfl (by kernel_rfl) (fun _ _ _ h => h) (by rfl) ?_ (by assumption) ?_
                        rotate_left
                        · intro w hSw
                          try dsimp only at hSw
                          go_simp
                          all_goals with_reducible rfl
                        simp only [Act.put, List.setIfInBounds_toArray, List.set_cons_zero, List.set_cons_succ]
                        refine held_on 34 (v := ?_) rfl (by kernel_rfl) (fun _ _ _ h => h) (by rfl) ?_ (by assumption) ?_
                        rotate_left
                        · intro w hSw
                          try dsimp only at hSw
                          go_simp
                          all_goals with_reducible rfl
                        simp only [Act.put, List.setIfInBounds_toArray, List.set_cons_zero, List.set_cons_succ]
                        refine wpAnyH_done (by kernel_rfl) ?_ _
                        refine NoPanic.normal ?_
                        go_wp2
                        go_roundw
                        case rel => exact ⟨q + 1, by omega, by go_num, Lib.hid (KS.out _ _ HS.out (Below.refl _ _).drew)⟩
                        case measure => simp [intOf]; omega
                    · obtain rfl : q = rb.length := by omega
                      have x1 := HS.out.2.1
                      by_cases hP : P.length = 0
                      · have B6 := Lib.hid (B5.out.trans (HS.out.2.2.2.2.2.2.out.mono B5.out.size))
                        go_wp2
                        go_roundg (l.length - (k + 1))
                        case measure => have := HG.out; omega
                        case rel => exact ⟨k + 1, by omega, Lib.hid (by omega), by go_num, B6⟩
                      · go_upto_region 25 with (fail)
                        obtain ⟨n2, s2, hn2, hres⟩ := OK.out.less
                        obtain ⟨P2, hP2⟩ : ∃ P2 : List Int, P2 = P.take (P.length - 1) := ⟨_, rfl⟩
                        obtain ⟨ra2, hra2⟩ : ∃ ra2 : List Place, ra2 = ra.take n2 := ⟨_, rfl⟩
                        have hlP2 : P2.length = P.length - 1 := by rw [hP2, List.length_take]; omega
                        have hlR2 : ra2.length ≤ ra.length := by rw [hra2, List.length_take]; omega
                        rw [← hP2, ← hra2] at hres
                        have hwrap : IntKind.i64.wrap ((P.length : Int) - 1) = (P2.length : Int) := by rw [show (P.length : Int) - 1 = (P2.length : Int) by omega]; exact IntWalk.i64_in _ (by omega)
                        obtain ⟨i03, hi03, _, _, _⟩ := info_parts Q.info3
                        have hcut2 := cut_to (P := Try.prog) 55 3 .i64 Try.underlying55 hi03 A1 P.length c1 (P2.length : Int) (by omega) (by omega) l1
                        obtain ⟨i05, hi05, _, _, _⟩ := info_parts Q.info85
                        have hcut3 := cut_to (P := Try.prog) 71 85 .i64 Try.underlying71 hi05 Aa ra.length ca (ra2.length : Int) (by omega) (by omega) (Kd.R_reads' A5.out.two.a).2.1
                        rw [Int.toNat_natCast] at hcut2 hcut3
                        have hb1 : (P2.length : Int) ≤ (c1 : Int) := by omega
                        have hb2 : (1 : Int) ≤ (P.length : Int) := by omega
                        have hb3 : (P.length : Int) ≤ 100 := by omega
                        obtain ⟨kc2, hkc2⟩ := (copyTypes_ev T HT.out).rounds
                        obtain ⟨ka2, hka2⟩ := (abiPlaces_ev HT.out P2 []).rounds
                        obtain ⟨ke2, hke2⟩ := (eqPlaces_ev ra2 (by omega)).rounds
                        rw [hres] at hka2
                        have hwq : wo.heap.size < wq.heap.size := Nat.lt_of_lt_of_le (Array.getElem?_eq_some_iff.1 X5.out).1 HS.out.2.2.2.2.2.2.out.size
                        have g1q : wo.heap.size < wq.heap.size := hwq
                        have M0 := Lib.hid (Kd.C_below K0.out HS.out.2.2.2.2.2.2.out)
                        have M1 := Lib.hid (show Kd.C (Kd.int .i64) wq A1 P2.length P2 from by rw [hP2]; exact Kd.C_take (Kd.C_below K1.out HS.out.2.2.2.2.2.2.out) (by omega))
                        have M3 := Lib.hid (show Kd.C Q.k85 wq Aa ra2.length ra2 from by rw [hra2]; exact Kd.C_take (Kd.C_below (Kd.R_reads' A5.out.two.a).2.2 HS.out.2.2.2.2.2.2.out) hn2)
                        have hca := (Kd.R_reads' A5.out.two.a).2.1
                        have hS1 : (wq.cell? ⟨wo.heap.size, 0, none⟩ = some (.slice A0 T.length c0) ∧ wq.cell? ⟨wo.heap.size, 1, none⟩ = some (.slice A1 P.length c1) ∧ Hid (Below wq.heap.size wq wq)) := ⟨HS.out.1, HS.out.2.1, Lib.hid (Below.refl _ _)⟩
                        have z0 := HS.out.2.2.2.1
                        have LS := Lib.hid (show ∀ w' w'' : World, (w'.cell? ⟨wo.heap.size, 0, none⟩ = some (.slice A0 T.length c0) ∧ w'.cell? ⟨wo.heap.size, 1, none⟩ = some (.slice A1 P.length c1) ∧ Hid (Below wq.heap.size wq w')) → Below w'.heap.size w' w'' → (w''.cell? ⟨wo.heap.size, 0, none⟩ = some (.slice A0 T.length c0) ∧ w''.cell? ⟨wo.heap.size, 1, none⟩ = some (.slice A1 P.length c1) ∧ Hid (Below wq.heap.size wq w'')) from fun w' w'' h hb => ⟨pw_cell_below hb h.1, pw_cell_below hb h.2.1, Lib.hid (h.2.2.out.trans (hb.mono h.2.2.out.size))⟩)
                        have LT := Lib.hid (show ∀ (w' : World) (g : Nat) (v0 v1 v2 : Value), (w'.cell? ⟨wo.heap.size, 0, none⟩ = some (.slice A0 T.length c0) ∧ w'.cell? ⟨wo.heap.size, 1, none⟩ = some (.slice A1 P.length c1) ∧ Hid (Below wq.heap.size wq w')) → wq.heap.size ≤ g → ((((w'.setCell ⟨g, 0, none⟩ v0).setCell ⟨g, 1, none⟩ v1).setCell ⟨g, 2, none⟩ v2).cell? ⟨wo.heap.size, 0, none⟩ = some (.slice A0 T.length c0) ∧ (((w'.setCell ⟨g, 0, none⟩ v0).setCell ⟨g, 1, none⟩ v1).setCell ⟨g, 2, none⟩ v2).cell? ⟨wo.heap.size, 1, none⟩ = some (.slice A1 P.length c1) ∧ Hid (Below wq.heap.size wq (((w'.setCell ⟨g, 0, none⟩ v0).setCell ⟨g, 1, none⟩ v1).setCell ⟨g, 2, none⟩ v2))) from fun w' g v0 v1 v2 h hg => by
                          have hb := ((h.2.2.out.setCell (p := ⟨g, 0, none⟩) hg v0).setCell (p := ⟨g, 1, none⟩) hg v1).setCell (p := ⟨g, 2, none⟩) hg v2
                          exact ⟨(hb.cell (p := ⟨wo.heap.size, 0, none⟩) g1q).trans hS1.1, (hb.cell (p := ⟨wo.heap.size, 1, none⟩) g1q).trans hS1.2.1, Lib.hid hb⟩)
                        have DT := Lib.hid (show ∀ w' : World, (w'.cell? ⟨wo.heap.size, 0, none⟩ = some (.slice A0 T.length c0) ∧ w'.cell? ⟨wo.heap.size, 1, none⟩ = some (.slice A1 P.length c1) ∧ Hid (Below wq.heap.size wq w')) → Calls Try.prog 27 #[.slice A0 T.length c0] w' fun e w'' => ∃ At ct, e = .returned (.slice At T.length ct) ∧ Hid (Kd.C Q.k124 w'' At T.length T ∧ T.length ≤ ct) ∧ Hid (Below w'.heap.size w' w'') from fun w' h =>
                          (Q.gantryref0_CopyTypes.calls kc2 A0 c0 T T w' (Kd.C_below M0.out h.2.2.out) l0 hkc2).mono fun e w'' hq => by
                            obtain ⟨v, rfl, hr, hb⟩ := hq
                            obtain ⟨At, ct, rfl, hct, hCt⟩ := Kd.S_reads hr
                            exact ⟨At, ct, rfl, Lib.hid ⟨hCt, hct⟩, Lib.hid hb⟩)
                        have DP := Lib.hid (show ∀ w' : World, (w'.cell? ⟨wo.heap.size, 0, none⟩ = some (.slice A0 T.length c0) ∧ w'.cell? ⟨wo.heap.size, 1, none⟩ = some (.slice A1 P.length c1) ∧ Hid (Below wq.heap.size wq w')) → Calls Try.prog 38 #[.slice A1 P2.length c1] w' fun e w'' => ∃ Ap cp, e = .returned (.slice Ap P2.length cp) ∧ Hid (Kd.C (Kd.int .i64) w'' Ap P2.length P2 ∧ P2.length ≤ cp) ∧ Hid (Below w'.heap.size w' w'') from fun w' h =>
                          (Q.gantryref0_CopyNumbers.calls A1 c1 P2 P2 w' (Kd.C_below M1.out h.2.2.out) (by omega) (copyN_f P2 (by omega))).mono fun e w'' hq => by
                            obtain ⟨v, rfl, hr, hb⟩ := hq
                            obtain ⟨Ap, cp, rfl⟩ := Kd.R_slice hr
                            exact ⟨Ap, cp, rfl, Lib.hid ⟨(Kd.R_reads' hr).2.2, (Kd.R_reads' hr).2.1⟩, Lib.hid hb⟩)
                        have DA := Lib.hid (show ∀ (w' : World) (At Ap : Option Addr) (ct cp : Nat), (w'.cell? ⟨wo.heap.size, 0, none⟩ = some (.slice A0 T.length c0) ∧ w'.cell? ⟨wo.heap.size, 1, none⟩ = some (.slice A1 P.length c1) ∧ Hid (Below wq.heap.size wq w')) → (Kd.C Q.k124 w' At T.length T ∧ T.length ≤ ct) → (Kd.C (Kd.int .i64) w' Ap P2.length P2 ∧ P2.length ≤ cp) → Calls Try.prog 37 #[.slice At T.length ct, .slice Ap P2.length cp, .slice none 0 0] w' fun e w'' => ∃ Aq cq Ar cr, e = .returned (.tuple #[.agg #[.slice Aq ra2.length cq, .slice Ar 0 cr, .int .i64 s2], .int .i64 0]) ∧ Hid (TwoR w'' wq.heap.size (.slice Aq ra2.length cq) (.slice Ar 0 cr) ra2 []) ∧ Hid (Below w'.heap.size w' w'') from fun w' At Ap ct cp h h0 h1 =>
                          (Q.abi_Places.calls ka2 At ct T Ap cp P2 none 0 [] _ _ _ _ w' h0.1 h0.2 h1.1 h1.2 (Kd.C_nil _ _) (Nat.le_refl _) hka2).mono fun e w'' hq => by
                            obtain ⟨va, vb, rfl, hra, hrb, hb⟩ := hq
                            obtain ⟨Aq, cq, rfl⟩ := Kd.R_slice hra
                            obtain ⟨Ar, cr, rfl⟩ := Kd.R_slice hrb
                            exact ⟨Aq, cq, Ar, cr, rfl, Lib.hid ⟨Kd.R_lower hra h.2.2.out.size, Kd.R_lower hrb h.2.2.out.size⟩, Lib.hid hb⟩)
                        have B6 := Lib.hid (B5.out.trans (HS.out.2.2.2.2.2.2.out.mono B5.out.size))
                        clear hlP2 hP2 hra2 hres hkc2 hka2 b1 b2 a0 x1 S7 HA7 HB7 HS M0 M1 KS OK hS0 hcb K0 K1 K2 X5 A5 HOK
                        as_aux_lemma =>
                        go_cut [13, 14] (fun s13 s14 wz => ∃ g2 Aq cq Ar cr, s13 = .pointer (some ⟨g2, 0, none⟩) ∧ s14 = .int .i64 0 ∧ Hid (AsgAt wq wz g2 (.slice Aq ra2.length cq) (.slice Ar 0 cr) ra2 [] s2))
                        case first =>
                          as_aux_lemma =>
                          go_region_held3 (fun w' => w'.cell? ⟨wo.heap.size, 0, none⟩ = some (.slice A0 T.length c0) ∧ w'.cell? ⟨wo.heap.size, 1, none⟩ = some (.slice A1 P.length c1) ∧ Hid (Below wq.heap.size wq w'))
                            (first
                              | exact LS.out wq _ hS1 (Below.refl _ _).drew
                              | exact LS.out wq _ hS1 ((Below.refl _ _).alloc (Nat.le_refl _) _).drew
                              | (refine LS.out _ _ ?_ hcc''.out; assumption)
                              | (refine LS.out _ _ ?_ hcc'.out; assumption)
                              | (refine LS.out _ _ ?_ hcc.out; assumption)
                              | (refine LS.out _ _ ?_ ((Below.refl _ _).alloc (Nat.le_refl _) _); assumption)
                              | (refine LT.out _ _ _ _ _ ?_ ?_; assumption; first | omega | (simp; omega))
                              | (exact LS.out _ _ S9.out ((Below.refl _ _).alloc (Nat.le_refl _) _)))
                            (first
                              | (go_simp; go_at_call 27; with_reducible refine (DT.out _ (by assumption)).mono ?_; rintro e y4 ⟨At, ct, rfl, HCT, hcc⟩; (try (have HG0 := Lib.hid ((hcc.out.block _ (by simp)).trans (Deep.blk_alloc_new _ _)))); have sz4 : wq.heap.size ≤ y4.heap.size := (LS.out _ _ (by assumption) hcc.out).2.2.out.size; dsimp only)
                              | (go_simp; go_at_call 38; with_reducible refine (DP.out _ (by assumption)).mono ?_; rintro e y5 ⟨Ap, cp, rfl, HCP, hcc'⟩; have HCT5 := Lib.hid (show Kd.C Q.k124 y5 At T.length T ∧ T.length ≤ ct by first | exact ⟨Kd.C_below HCT.out.1 hcc'.out, HCT.out.2⟩ | exact ⟨Kd.C_below HCT.out.1 (((Below.refl _ _).alloc (Nat.le_refl _) _).trans (hcc'.out.mono (by simp))), HCT.out.2⟩); (first | (have HG' := Lib.hid ((hcc'.out.block _ (blk_lt HG0.out)).trans HG0.out)) | (have HG' := Lib.hid ((hcc'.out.block _ (by simp)).trans (Deep.blk_alloc_new _ _))) | skip); have sz5 : wq.heap.size ≤ y5.heap.size := (LS.out _ _ (by assumption) hcc'.out).2.2.out.size; dsimp only)
                              | (go_simp; go_at_call 37; with_reducible refine (DA.out _ At Ap ct cp (by assumption) (by first | exact HCT5.out | exact ⟨Kd.C_below HCT5.out.1 ((Below.refl _ _).alloc (Nat.le_refl _) _), HCT5.out.2⟩) (by first | exact HCP.out | exact ⟨Kd.C_below HCP.out.1 ((Below.refl _ _).alloc (Nat.le_refl _) _), HCP.out.2⟩)).mono ?_; rintro e y7 ⟨Aq, cq, Ar, cr, rfl, HV, hcc''⟩; have S9 := Lib.hid (LS.out _ _ (by assumption) hcc''.out); (first | (have HG'' := Lib.hid ((hcc''.out.block _ (blk_lt HG'.out)).trans HG'.out)) | (have HG'' := Lib.hid ((hcc''.out.block _ (by simp)).trans (Deep.blk_alloc_new _ _))) | skip); (try (have e0 := lblk_cell HG''.out 0; have e1 := lblk_cell HG''.out 1; have e2 := lblk_cell HG''.out 2; have z0 := blk_fz HG''.out 0; have z1 := blk_fz HG''.out 1; have z2 := blk_fz HG''.out 2; simp only [List.getElem?_toArray, List.getElem?_cons_succ, List.getElem?_cons_zero] at e0 e1 e2)); dsimp only))
                          all_goals
                            go_wp2_with fail
                            go_meet
                            first
                              | exact ⟨_, Aq, cq, Ar, cr, rfl, rfl, Lib.hid (asg_alloc HV.out S9.out.2.2.out s2)⟩
                              | exact ⟨_, Aq, cq, Ar, cr, rfl, rfl, Lib.hid (asg_set HV.out S9.out.2.2.out HG''.out (by first | omega | (simp; omega)) s2)⟩
                        case rest =>
                          obtain ⟨g2, Aq, cq, Ar, cr, rfl, rfl, HA2⟩ := hcut
                          have y0 := lblk_cell HA2.out.blk 0
                          simp only [List.getElem?_toArray, List.getElem?_cons_zero] at y0
                          replace z0 := pw_cell_below HA2.out.below z0
                          have M4 := Lib.hid (Kd.C_below M3.out HA2.out.below)
                          have M5 := Lib.hid (Kd.R_reads' HA2.out.two.a).2.2
                          have M6 := (Kd.R_reads' HA2.out.two.a).2.1
                          have B8 := Lib.hid (B6.out.trans (HA2.out.below.mono B6.out.size))
                          clear DT DP DA LS LT hS1 HA2 M3 hcut2
                          obtain ⟨wz, rfl⟩ : ∃ wz : World, wz = wc := ⟨_, rfl⟩
                          have hS1 : (wz.cell? ⟨g2, 0, none⟩ = some (.slice Aq ra2.length cq) ∧ wz.cell? ⟨g, 0, none⟩ = some (.slice Aa ra.length ca) ∧ Hid (Below wz.heap.size wz wz)) := ⟨y0, z0, Lib.hid (Below.refl _ _)⟩
                          have LS := Lib.hid (show ∀ w' w'' : World, (w'.cell? ⟨g2, 0, none⟩ = some (.slice Aq ra2.length cq) ∧ w'.cell? ⟨g, 0, none⟩ = some (.slice Aa ra.length ca) ∧ Hid (Below wz.heap.size wz w')) → Below w'.heap.size w' w'' → (w''.cell? ⟨g2, 0, none⟩ = some (.slice Aq ra2.length cq) ∧ w''.cell? ⟨g, 0, none⟩ = some (.slice Aa ra.length ca) ∧ Hid (Below wz.heap.size wz w'')) from fun w' w'' h hb => ⟨pw_cell_below hb h.1, pw_cell_below hb h.2.1, Lib.hid (h.2.2.out.trans (hb.mono h.2.2.out.size))⟩)
                          have DN := Lib.hid (show ∀ w' : World, Calls Try.prog 40 #[.int .i64 0] w' fun e w'' => e = .returned (.int .i64 0) ∧ Hid (Below w'.heap.size w' w'') from fun w' =>
                            (Q.gantrylaw11_num.calls 0 0 w' rfl).mono fun e w'' hq => ⟨hq.1, Lib.hid (by obtain ⟨n, rfl⟩ := hq.2; exact pw_below_drewN (Below.refl _ _) n)⟩)
                          have DE := Lib.hid (show ∀ w' : World, (w'.cell? ⟨g2, 0, none⟩ = some (.slice Aq ra2.length cq) ∧ w'.cell? ⟨g, 0, none⟩ = some (.slice Aa ra.length ca) ∧ Hid (Below wz.heap.size wz w')) → Calls Try.prog 46 #[.slice Aq ra2.length cq, .slice Aa ra2.length ca] w' fun e w'' => e = .returned (.bool true) ∧ Hid (Below w'.heap.size w' w'') from fun w' h =>
                            (Q.gantryref0_EqPlaces.calls ke2 Aq cq ra2 Aa ca ra2 true w' (Kd.C_below M5.out h.2.2.out) M6 (Kd.C_below M4.out h.2.2.out) (by omega) hke2).mono fun e w'' hq => ⟨hq.1, Lib.hid (by obtain ⟨n, rfl⟩ := hq.2; exact pw_below_drewN (Below.refl _ _) n)⟩)
                          as_aux_lemma =>
                          go_upto_region 26 with (fail)
                          go_region_held3 (fun w' => w'.cell? ⟨g2, 0, none⟩ = some (.slice Aq ra2.length cq) ∧ w'.cell? ⟨g, 0, none⟩ = some (.slice Aa ra.length ca) ∧ Hid (Below wz.heap.size wz w'))
                            (first
                              | exact LS.out wz _ hS1 (Below.refl _ _).drew
                              | (refine LS.out _ _ ?_ hcc.out; assumption))
                            (first
                              | (go_simp; go_at_call 40; with_reducible refine (DN.out _).mono ?_; rintro e y4 ⟨rfl, hcc⟩; dsimp only)
                              | (go_simp; go_at_call 46; with_reducible refine (DE.out _ (by assumption)).mono ?_; rintro e y4 ⟨rfl, hcc⟩; dsimp only))
                          have S9 := Lib.hid (show (y4.cell? ⟨g2, 0, none⟩ = some (.slice Aq ra2.length cq) ∧ y4.cell? ⟨g, 0, none⟩ = some (.slice Aa ra.length ca) ∧ Hid (Below wz.heap.size wz y4)) by assumption)
                          have B9 := Lib.hid (B8.out.trans (S9.out.2.2.out.mono B8.out.size))
                          go_wp2
                          go_roundg (l.length - (k + 1))
                          case measure => have := HG.out; omega
                          case rel => exact ⟨k + 1, by omega, Lib.hid (by omega), by go_num, B9⟩
            · go_wp2_with fail
              refine (Q.gantrylaw11_num.calls re re _ rfl).mono ?_
              rintro e w6 ⟨rfl, ⟨n1, rfl⟩⟩
              have B6 := Lib.hid (pw_below_drewN B5.out n1)
              go_wp2
              go_roundg (l.length - (k + 1))
              case measure => have := HG.out; omega
              case rel => exact ⟨k + 1, by omega, Lib.hid (by omega), by go_num, B6⟩
        · have hlen2 : 100 < P.length ∨ (P.length ≤ 100 ∧ 100 < R.length) := by omega
          clear hlen
          go_wp2_with fail
          refine (Q.gantrylaw7_Heavy.calls kh A0 c0 T false _ (Kd.C_below G0.out ((Below.refl _ _).alloc (Nat.le_refl _) _)) l0 HH.out).mono ?_
          rintro e w2 ⟨rfl, ⟨nq, rfl⟩⟩
          have B2 := Lib.hid (pw_below_drewN (HB.out.alloc HB.out.size (.cells #[.slice A0 T.length c0, .slice A1 P.length c1, .slice A2 R.length c2] 70)) nq)
          rcases hlen2 with h1 | ⟨h1, h2⟩
          all_goals
            go_wp2
            go_ret
            exact ⟨rfl, B2.out⟩
    · have hn : ¬ ((k : Int) < (l.length : Int) ∧ (k : Int) < 15) := by omega
      have hn2 : (l.length : Int) ≤ (k : Int) ∨ ((k : Int) < (l.length : Int) ∧ (15 : Int) ≤ k) := by omega
      clear hn hlt
      rcases hn2 with h1 | ⟨h1, h2⟩
      all_goals
        go_wp2_with fail
        refine (Q.gantrylaw11_wakes.calls kw true _ HW.out).mono ?_
        rintro e w2 ⟨rfl, hb2⟩
        have B2 := Lib.hid (HB.out.trans (hb2.mono HB.out.size))
        clear hb2
        go_wp2
        go_ret
        exact ⟨rfl, B2.out⟩
end Go.Proofs.Ytekoogedhmhpgaa

