/- The walk of the law PlacesExact. -/
import Derived.Test.YtekoogedhmhpgaaPlacesPE2
import Derived.Test.YtekoogedhmhpgaaVx0E2
import Derived.Deep.RegionHeld3
import Derived.Deep.DeepCutAuto
import Derived.Deep.LoopGhost
namespace Go.Proofs.Ytekoogedhmhpgaa
open Go.RowKit Go.Proofs.YtekoogedhmhpgaaW.PrintWords
set_option linter.unusedVariables false

/-- What is asked can be. -/
def AskOk (x : Q.S70) : Prop := okT x.f0 ∧ x.f1.length ≤ 17592186043904 ∧ x.f2.length ≤ 17592186043904
theorem copyN_f (l : List Int) (h : l.length ≤ 17592186043904) : Q.gantryref0_CopyNumbers.f l = some l := by
  unfold Q.gantryref0_CopyNumbers.f
  rw [if_pos (by simp; omega)]
  rfl
/-- Two rows of places, apart. -/
structure TwoR (w : World) (base : Nat) (va vb : Value) (a b : List Place) : Prop where
  a : Kd.R Q.k85 85 w base (fun k_ => some k_ ≠ vb.ownBlock) va a
  b : Kd.R Q.k85 85 w base (fun k_ => some k_ ≠ va.ownBlock) vb b
/-- An assignment in a new block. -/
structure AsgAt (w0 w : World) (g : Nat) (va vb : Value) (a b : List Place) (s : Int) : Prop where
  blk : w.heap[g]? = some (.cells #[va, vb, .int .i64 s] 73 (0, 0))
  ge : w0.heap.size ≤ g
  two : TwoR w w0.heap.size va vb a b
  below : Below w0.heap.size w0 w
theorem TwoR.below {w w' : World} {base : Nat} {va vb : Value} {a b : List Place} (h : TwoR w base va vb a b) (hb : Below w.heap.size w w') : TwoR w' base va vb a b := ⟨Kd.R_below h.a hb, Kd.R_below h.b hb⟩
theorem place_E : ∀ q, q ∈ 85 :: Q.k85.E → q ≠ 73 := by
  intro q hq
  simp [Q.k85, Kd.iso, Kd.pair, Kd.int, Kd.bool, Kd.scalar] at hq
  subst hq
  decide
theorem TwoR.set {w : World} {base g : Nat} {va vb : Value} {a b : List Place} {cs : Array Value} (h : TwoR w base va vb a b) (hg : w.heap[g]? = some (.cells cs 73 (0, 0))) (j : Nat) (u : Value) : TwoR (w.setCell ⟨g, j, none⟩ u) base va vb a b :=
  ⟨Kd.R_set h.a hg place_E j u, Kd.R_set h.b hg place_E j u⟩
theorem asg_alloc {w0 w : World} {va vb : Value} {a b : List Place} (h : TwoR w w0.heap.size va vb a b) (hb : Below w0.heap.size w0 w) (s : Int) : AsgAt w0 (w.alloc (.cells #[va, vb, .int .i64 s] 73)) w.heap.size va vb a b s :=
  ⟨Deep.blk_alloc_new _ _, hb.size, h.below ((Below.refl _ _).alloc (Nat.le_refl _) _), hb.alloc hb.size _⟩
theorem asg_set {w0 w : World} {g : Nat} {u0 u1 u2 va vb : Value} {a b : List Place} (h : TwoR w w0.heap.size va vb a b) (hb : Below w0.heap.size w0 w) (hg : w.heap[g]? = some (.cells #[u0, u1, u2] 73 (0, 0))) (ge : w0.heap.size ≤ g) (s : Int) :
    AsgAt w0 (((w.setCell ⟨g, 0, none⟩ va).setCell ⟨g, 1, none⟩ vb).setCell ⟨g, 2, none⟩ (.int .i64 s)) g va vb a b s :=
  ⟨by have := cells_put (cells_put (cells_put hg 0 va) 1 vb) 2 (.int .i64 s); simpa using this, ge, ((h.set hg 0 va).set (cells_put hg 0 va) 1 vb).set (cells_put (cells_put hg 0 va) 1 vb) 2 _, ((hb.setCell (p := ⟨g, 0, none⟩) ge va).setCell (p := ⟨g, 1, none⟩) ge vb).setCell (p := ⟨g, 2, none⟩) ge _⟩
def Done (w : World) (e : Ending) (w' : World) : Prop := e = .returned (.bool true) ∧ Below w.heap.size w w'

set_option maxHeartbeats 8000000 in
set_option maxRecDepth 100000 in
theorem placesExact_ok (A : Option Addr) (c : Nat) (l : List Q.S70) (w : World) (hA : Kd.C Q.k70 w A l.length l) (hl : l.length ≤ 140737488351232) (hL : ∀ x ∈ l, AskOk x) :
    Calls Try.prog 7 #[.slice A l.length c] w (Done w) := by
  have HA := Lib.hid hA
  have HL := Lib.hid hL
  obtain ⟨kw, hkw⟩ := wakes11_f
  have HW := Lib.hid hkw
  clear hA hL hkw
  go_enter Try.func7, Try.ntmps7
  go_wp2_with fail
  go_loopg [3] l.length (fun g i wr => ∃ k : Nat, k ≤ l.length ∧ Hid (g + k = l.length) ∧ i = .int .i64 k ∧ Hid (Below w.heap.size w wr))
  case atStart => exact ⟨0, Nat.zero_le _, Lib.hid (by omega), rfl, Lib.hid (Below.refl _ _)⟩
  case round =>
    obtain ⟨k, hk, HG, rfl, HB⟩ := hrel
    obtain ⟨wo, rfl⟩ : ∃ wo : World, wo = wr := ⟨_, rfl⟩
    by_cases hlt : k < l.length ∧ k < 15
    · obtain ⟨hlt, hk15⟩ := hlt
      have hlt' : (k : Int) < (l.length : Int) := by omega
      obtain ⟨ad, A0, c0, A1, c1, A2, c2, rfl, q0, q1, q2, l0, g0, l1, g1, l2, g2⟩ := Q.at_T70 HA.out k (by omega) hlt'
      have hx : Q.rd_T70 l k ∈ l := by
        unfold Q.rd_T70
        rw [List.getD_eq_getElem?_getD, Int.toNat_natCast, List.getElem?_eq_getElem hlt]
        exact List.getElem_mem _
      obtain ⟨ht, hp, hr⟩ := HL.out _ hx
      rw [Int.toNat_natCast] at q0 q1 q2
      replace q0 := pw_cell_below HB.out q0
      replace q1 := pw_cell_below HB.out q1
      replace q2 := pw_cell_below HB.out q2
      clear hx
      generalize Q.rd_T70 l k = x at *
      obtain ⟨T, P, R⟩ := x
      dsimp only at *
      have G0 := Lib.hid (Kd.C_below g0 HB.out)
      have G1 := Lib.hid (Kd.C_below g1 HB.out)
      have G2 := Lib.hid (Kd.C_below g2 HB.out)
      have HT := Lib.hid ht
      clear g0 g1 g2 ht
      obtain ⟨hv, hhv⟩ := heavy_ev T HT.out
      obtain ⟨kh, hkh⟩ := hhv.rounds
      have HH := Lib.hid hkh
      clear hhv hkh
      cases hv with
      | true =>
        go_wp2_with fail
        refine (Q.gantrylaw7_Heavy.calls kh A0 c0 T true _ (Kd.C_below G0.out ((Below.refl _ _).alloc (Nat.le_refl _) _)) l0 HH.out).mono ?_
        rintro e w2 ⟨rfl, ⟨nq, rfl⟩⟩
        have B2 := Lib.hid (pw_below_drewN (HB.out.alloc HB.out.size (.cells #[.slice A0 T.length c0, .slice A1 P.length c1, .slice A2 R.length c2] 70)) nq)
        go_wp2
        go_ret
        exact ⟨rfl, B2.out⟩
      | false =>
        by_cases hlen : P.length ≤ 100 ∧ R.length ≤ 100
        · obtain ⟨hlp, hlr⟩ := hlen
          go_wp2_with fail
          refine (Q.gantrylaw7_Heavy.calls kh A0 c0 T false _ (Kd.C_below G0.out ((Below.refl _ _).alloc (Nat.le_refl _) _)) l0 HH.out).mono ?_
          rintro e w2 ⟨rfl, ⟨nq, rfl⟩⟩
          have B2 := Lib.hid (pw_below_drewN (HB.out.alloc HB.out.size (.cells #[.slice A0 T.length c0, .slice A1 P.length c1, .slice A2 R.length c2] 70)) nq)
          have X2 := Lib.hid (show ((wo.alloc (.cells #[.slice A0 T.length c0, .slice A1 P.length c1, .slice A2 R.length c2] 70)).drewN nq).heap[wo.heap.size]? = _ from Deep.blk_alloc_new _ _)
          have W2 := Lib.hid (pw_below_drewN ((Below.refl wo.heap.size wo).alloc (Nat.le_refl _) (.cells #[.slice A0 T.length c0, .slice A1 P.length c1, .slice A2 R.length c2] 70)) nq)
          clear q0 q1 q2
          generalize (wo.alloc (.cells #[.slice A0 T.length c0, .slice A1 P.length c1, .slice A2 R.length c2] 70)).drewN nq = w2 at *
          have x0 := lblk_cell X2.out 0
          have x1 := lblk_cell X2.out 1
          have x2 := lblk_cell X2.out 2
          simp only [List.getElem?_toArray, List.getElem?_cons_succ, List.getElem?_cons_zero] at x0 x1 x2
          obtain ⟨kc, hkc⟩ := (copyTypes_ev T HT.out).rounds
          have HC := Lib.hid hkc
          clear hkc
          go_wp2_with fail
          refine (Q.gantryref0_CopyTypes.calls kc A0 c0 T T _ (Kd.C_below G0.out W2.out) l0 HC.out).mono ?_
          rintro e w3 ⟨v0, rfl, hS, hb3⟩
          obtain ⟨At, ct, rfl, hct, hCt⟩ := Kd.S_reads hS
          have X3 := Lib.hid ((hb3.block _ (Array.getElem?_eq_some_iff.1 X2.out).1).trans X2.out)
          have B3 := Lib.hid (B2.out.trans (hb3.mono B2.out.size))
          have W3 := Lib.hid (W2.out.trans (hb3.mono W2.out.size))
          have CT := Lib.hid hCt
          have y1 := lblk_cell X3.out 1
          have y2 := lblk_cell X3.out 2
          simp only [List.getElem?_toArray, List.getElem?_cons_succ, List.getElem?_cons_zero] at y1 y2
          have H1 := Lib.hid (Kd.C_below G1.out W3.out)
          have H2 := Lib.hid (Kd.C_below G2.out W3.out)
          obtain ⟨ka, hka⟩ := (abiPlaces_ev HT.out P R).rounds
          have KA := Lib.hid hka
          obtain ⟨kr, hkr⟩ := (refPlaces_ev HT.out P R hlp hlr).rounds
          have KR := Lib.hid hkr
          have HLN := Lib.hid (placesR_len T P R)
          clear hkr
          clear hS hCt hb3 hka x0 x1 x2
          have kS : ∀ w' w'' : World, (w'.cell? ⟨wo.heap.size, 1, none⟩ = some (.slice A1 P.length c1) ∧ w'.cell? ⟨wo.heap.size, 2, none⟩ = some (.slice A2 R.length c2) ∧ Hid (Below w3.heap.size w3 w')) → Below w'.heap.size w' w'' → (w''.cell? ⟨wo.heap.size, 1, none⟩ = some (.slice A1 P.length c1) ∧ w''.cell? ⟨wo.heap.size, 2, none⟩ = some (.slice A2 R.length c2) ∧ Hid (Below w3.heap.size w3 w'')) := fun w' w'' h hb => ⟨pw_cell_below hb h.1, pw_cell_below hb h.2.1, Lib.hid (h.2.2.out.trans (hb.mono h.2.2.out.size))⟩
          have cP : ∀ w' : World, (w'.cell? ⟨wo.heap.size, 1, none⟩ = some (.slice A1 P.length c1) ∧ w'.cell? ⟨wo.heap.size, 2, none⟩ = some (.slice A2 R.length c2) ∧ Hid (Below w3.heap.size w3 w')) → Calls Try.prog 38 #[.slice A1 P.length c1] w' fun e w'' => ∃ Ap cp, e = .returned (.slice Ap P.length cp) ∧ Hid (IntsAt w'' Ap P ∧ P.length ≤ cp) ∧ Hid (Below w'.heap.size w' w'') := fun w' h =>
            (Q.gantryref0_CopyNumbers.calls A1 c1 P P w' (Kd.C_below H1.out h.2.2.out) l1 (copyN_f P hp)).mono fun e w'' hq => by
              obtain ⟨v, rfl, hr, hb⟩ := hq
              obtain ⟨Ap, cp, rfl⟩ := Kd.R_slice hr
              exact ⟨Ap, cp, rfl, Lib.hid ⟨(Kd.R_reads' hr).2.2, (Kd.R_reads' hr).2.1⟩, Lib.hid hb⟩
          have cR : ∀ w' : World, (w'.cell? ⟨wo.heap.size, 1, none⟩ = some (.slice A1 P.length c1) ∧ w'.cell? ⟨wo.heap.size, 2, none⟩ = some (.slice A2 R.length c2) ∧ Hid (Below w3.heap.size w3 w')) → Calls Try.prog 38 #[.slice A2 R.length c2] w' fun e w'' => ∃ Ar cr, e = .returned (.slice Ar R.length cr) ∧ Hid (IntsAt w'' Ar R ∧ R.length ≤ cr) ∧ Hid (Below w'.heap.size w' w'') := fun w' h =>
            (Q.gantryref0_CopyNumbers.calls A2 c2 R R w' (Kd.C_below H2.out h.2.2.out) l2 (copyN_f R hr)).mono fun e w'' hq => by
              obtain ⟨v, rfl, hr, hb⟩ := hq
              obtain ⟨Ap, cp, rfl⟩ := Kd.R_slice hr
              exact ⟨Ap, cp, rfl, Lib.hid ⟨(Kd.R_reads' hr).2.2, (Kd.R_reads' hr).2.1⟩, Lib.hid hb⟩
          have cA : ∀ (w' : World) (Ap Ar : Option Addr) (cp cr : Nat), (w'.cell? ⟨wo.heap.size, 1, none⟩ = some (.slice A1 P.length c1) ∧ w'.cell? ⟨wo.heap.size, 2, none⟩ = some (.slice A2 R.length c2) ∧ Hid (Below w3.heap.size w3 w')) → (IntsAt w' Ap P ∧ P.length ≤ cp) → (IntsAt w' Ar R ∧ R.length ≤ cr) → Calls Try.prog 37 #[.slice At T.length ct, .slice Ap P.length cp, .slice Ar R.length cr] w' fun e w'' => ∃ Aa ca Ab cb, e = .returned (.tuple #[.agg #[.slice Aa (placesR T P R).1.length ca, .slice Ab (placesR T P R).2.1.length cb, .int .i64 (placesR T P R).2.2.1], .int .i64 (placesR T P R).2.2.2]) ∧ Hid (TwoR w'' w3.heap.size (.slice Aa (placesR T P R).1.length ca) (.slice Ab (placesR T P R).2.1.length cb) (placesR T P R).1 (placesR T P R).2.1) ∧ Hid (Below w'.heap.size w' w'') := fun w' Ap Ar cp cr h h1 h2 =>
            (Q.abi_Places.calls ka At ct T Ap cp P Ar cr R _ _ _ _ w' (Kd.C_below CT.out h.2.2.out) hct h1.1 h1.2 h2.1 h2.2 KA.out).mono fun e w'' hq => by
              obtain ⟨va, vb, rfl, hra, hrb, hb⟩ := hq
              obtain ⟨Aa, ca, rfl⟩ := Kd.R_slice hra
              obtain ⟨Ab, cb, rfl⟩ := Kd.R_slice hrb
              exact ⟨Aa, ca, Ab, cb, rfl, Lib.hid ⟨Kd.R_lower hra h.2.2.out.size, Kd.R_lower hrb h.2.2.out.size⟩, Lib.hid hb⟩
          have hw3 := (Array.getElem?_eq_some_iff.1 X3.out).1
          have kT : ∀ (w' : World) (g : Nat) (v0 v1 v2 : Value), (w'.cell? ⟨wo.heap.size, 1, none⟩ = some (.slice A1 P.length c1) ∧ w'.cell? ⟨wo.heap.size, 2, none⟩ = some (.slice A2 R.length c2) ∧ Hid (Below w3.heap.size w3 w')) → w3.heap.size ≤ g → ((((w'.setCell ⟨g, 0, none⟩ v0).setCell ⟨g, 1, none⟩ v1).setCell ⟨g, 2, none⟩ v2).cell? ⟨wo.heap.size, 1, none⟩ = some (.slice A1 P.length c1) ∧ (((w'.setCell ⟨g, 0, none⟩ v0).setCell ⟨g, 1, none⟩ v1).setCell ⟨g, 2, none⟩ v2).cell? ⟨wo.heap.size, 2, none⟩ = some (.slice A2 R.length c2) ∧ Hid (Below w3.heap.size w3 (((w'.setCell ⟨g, 0, none⟩ v0).setCell ⟨g, 1, none⟩ v1).setCell ⟨g, 2, none⟩ v2))) := fun w' g v0 v1 v2 h hg => by
            have hb := ((h.2.2.out.setCell (p := ⟨g, 0, none⟩) hg v0).setCell (p := ⟨g, 1, none⟩) hg v1).setCell (p := ⟨g, 2, none⟩) hg v2
            exact ⟨(hb.cell (p := ⟨wo.heap.size, 1, none⟩) hw3).trans y1, (hb.cell (p := ⟨wo.heap.size, 2, none⟩) hw3).trans y2, Lib.hid hb⟩
          have KT := Lib.hid kT
          have KS := Lib.hid kS
          have CP := Lib.hid cP
          have CR := Lib.hid cR
          have CA := Lib.hid cA
          clear kS kT cP cR cA
          generalize placesR T P R = res at *
          obtain ⟨ra, rb, rs, re⟩ := res
          dsimp only at CA
          go_upto_region 8 with (fail)
          go_cut [6, 7] (fun s6 s7 wc => ∃ g Aa ca Ab cb, s6 = .pointer (some ⟨g, 0, none⟩) ∧ s7 = .int .i64 re ∧ Hid (AsgAt w3 wc g (.slice Aa ra.length ca) (.slice Ab rb.length cb) ra rb rs))
          case first =>
            have hS0 : w3.cell? ⟨wo.heap.size, 1, none⟩ = some (.slice A1 P.length c1) ∧ w3.cell? ⟨wo.heap.size, 2, none⟩ = some (.slice A2 R.length c2) ∧ Hid (Below w3.heap.size w3 w3) := ⟨y1, y2, Lib.hid (Below.refl _ _)⟩
            go_region_held3 (fun w' => w'.cell? ⟨wo.heap.size, 1, none⟩ = some (.slice A1 P.length c1) ∧ w'.cell? ⟨wo.heap.size, 2, none⟩ = some (.slice A2 R.length c2) ∧ Hid (Below w3.heap.size w3 w'))
              (first
                | exact KS.out w3 _ hS0 (Below.refl _ _).drew
                | exact KS.out w3 _ hS0 ((Below.refl _ _).alloc (Nat.le_refl _) _).drew
                | (refine KS.out _ _ ?_ hcb''.out; assumption)
                | (refine KS.out _ _ ?_ hcb'.out; assumption)
                | (refine KS.out _ _ ?_ hcb.out; assumption)
                | (refine KS.out _ _ ?_ ((Below.refl _ _).alloc (Nat.le_refl _) _); assumption)
                | (refine KT.out _ _ _ _ _ ?_ ?_; assumption; first | omega | (simp; omega))
                | (exact KS.out _ _ S7.out ((Below.refl _ _).alloc (Nat.le_refl _) _)))
              (first
                | (go_simp; go_at_call 38; refine (CP.out _ (by assumption)).mono ?_; rintro e w5 ⟨Ap, cp, rfl, HCP, hcb⟩; (try (have HG := Lib.hid ((hcb.out.block _ (by simp)).trans (Deep.blk_alloc_new _ _)))); have sz5 : w3.heap.size ≤ w5.heap.size := (KS.out _ _ (by assumption) hcb.out).2.2.out.size; dsimp only)
                | (go_simp; go_at_call 38; refine (CR.out _ (by assumption)).mono ?_; rintro e w6 ⟨Ar, cr, rfl, HCR, hcb'⟩; have HCP6 := Lib.hid (show IntsAt w6 Ap P ∧ P.length ≤ cp by first | exact ⟨Kd.C_below HCP.out.1 hcb'.out, HCP.out.2⟩ | exact ⟨Kd.C_below HCP.out.1 (((Below.refl _ _).alloc (Nat.le_refl _) _).trans (hcb'.out.mono (by simp))), HCP.out.2⟩); (first | (have HG' := Lib.hid ((hcb'.out.block _ (blk_lt HG.out)).trans HG.out)) | (have HG' := Lib.hid ((hcb'.out.block _ (by simp)).trans (Deep.blk_alloc_new _ _))) | skip); have sz6 : w3.heap.size ≤ w6.heap.size := (KS.out _ _ (by assumption) hcb'.out).2.2.out.size; dsimp only)
                | (go_simp; go_at_call 37; refine (CA.out _ Ap Ar cp cr (by assumption) (by first | exact HCP6.out | exact ⟨Kd.C_below HCP6.out.1 ((Below.refl _ _).alloc (Nat.le_refl _) _), HCP6.out.2⟩) (by first | exact HCR.out | exact ⟨Kd.C_below HCR.out.1 ((Below.refl _ _).alloc (Nat.le_refl _) _), HCR.out.2⟩)).mono ?_; rintro e w7 ⟨Aa, ca, Ab, cb, rfl, HV, hcb''⟩; have S7 := Lib.hid (KS.out _ _ (by assumption) hcb''.out); (first | (have HG'' := Lib.hid ((hcb''.out.block _ (blk_lt HG'.out)).trans HG'.out)) | (have HG'' := Lib.hid ((hcb''.out.block _ (by simp)).trans (Deep.blk_alloc_new _ _))) | skip); (try (have e0 := lblk_cell HG''.out 0; have e1 := lblk_cell HG''.out 1; have e2 := lblk_cell HG''.out 2; have z0 := blk_fz HG''.out 0; have z1 := blk_fz HG''.out 1; have z2 := blk_fz HG''.out 2; simp only [List.getElem?_toArray, List.getElem?_cons_succ, List.getElem?_cons_zero] at e0 e1 e2)); dsimp only))
            all_goals
              go_wp2_with fail
              go_meet
              first
                | exact ⟨_, Aa, ca, Ab, cb, rfl, rfl, Lib.hid (asg_alloc HV.out S7.out.2.2.out rs)⟩
                | exact ⟨_, Aa, ca, Ab, cb, rfl, rfl, Lib.hid (asg_set HV.out S7.out.2.2.out HG''.out (by first | omega | (simp; omega)) rs)⟩
          case rest =>
            obtain ⟨g, Aa, ca, Ab, cb, rfl, rfl, HAS⟩ := hcut
            have X4 := Lib.hid ((HAS.out.below.block _ (Array.getElem?_eq_some_iff.1 X3.out).1).trans X3.out)
            have x0 := lblk_cell X4.out 0
            have x1 := lblk_cell X4.out 1
            have x2 := lblk_cell X4.out 2
            simp only [List.getElem?_toArray, List.getElem?_cons_succ, List.getElem?_cons_zero] at x0 x1 x2
            have J0 := Lib.hid (Kd.C_below (Kd.C_below G0.out W3.out) HAS.out.below)
            have J1 := Lib.hid (Kd.C_below H1.out HAS.out.below)
            have J2 := Lib.hid (Kd.C_below H2.out HAS.out.below)
            have JT := Lib.hid (Kd.C_below CT.out HAS.out.below)
            have B4 := Lib.hid (B3.out.trans (HAS.out.below.mono B3.out.size))
            go_wp2_with fail
            refine (Q.gantryref11_Places.calls kr A0 c0 T A1 c1 P A2 c2 R ra rb rs re _ J0.out l0 J1.out l1 J2.out l2 KR.out).mono ?_
            rintro e w4 ⟨vc, vd, rfl, hrc, hrd, hb4⟩
            obtain ⟨Ac, cc, rfl⟩ := Kd.R_slice hrc
            obtain ⟨Ad, cd, rfl⟩ := Kd.R_slice hrd
            go_upto_region 10 with (fail)
            have hb5 := hb4.alloc hb4.size (.cells #[.slice Ac ra.length cc, .slice Ad rb.length cd, .int .i64 rs] 73)
            have A5 := Lib.hid (show AsgAt w3 (w4.alloc (.cells #[.slice Ac ra.length cc, .slice Ad rb.length cd, .int .i64 rs] 73)) g (.slice Aa ra.length ca) (.slice Ab rb.length cb) ra rb rs from ⟨(hb5.block _ (Array.getElem?_eq_some_iff.1 HAS.out.blk).1).trans HAS.out.blk, HAS.out.ge, HAS.out.two.below hb5, HAS.out.below.trans (hb5.mono HAS.out.below.size)⟩)
            have N5 := Lib.hid (show (w4.alloc (.cells #[.slice Ac ra.length cc, .slice Ad rb.length cd, .int .i64 rs] 73)).heap[w4.heap.size]? = _ from Deep.blk_alloc_new _ _)
            have X5 := Lib.hid ((hb5.block _ (Array.getElem?_eq_some_iff.1 X4.out).1).trans X4.out)
            have R5 := Lib.hid (show TwoR (w4.alloc (.cells #[.slice Ac ra.length cc, .slice Ad rb.length cd, .int .i64 rs] 73)) wc.heap.size (.slice Ac ra.length cc) (.slice Ad rb.length cd) ra rb from (TwoR.mk hrc hrd).below ((Below.refl _ _).alloc (Nat.le_refl _) _))
            have K0 := Lib.hid (Kd.C_below J0.out hb5)
            have KT' := Lib.hid (Kd.C_below JT.out hb5)
            have B5 := Lib.hid (B4.out.trans (hb5.mono B4.out.size))
            clear hrc hrd hb4 hb5 x0 x1 x2 J0 J1 J2 JT
            generalize w4.alloc (.cells #[.slice Ac ra.length cc, .slice Ad rb.length cd, .int .i64 rs] 73) = w5 at *
            have x0 := lblk_cell X5.out 0
            have a0 := lblk_cell A5.out.blk 0
            have a1 := lblk_cell A5.out.blk 1
            have a2 := lblk_cell A5.out.blk 2
            have b0 := lblk_cell N5.out 0
            have b1 := lblk_cell N5.out 1
            have b2 := lblk_cell N5.out 2
            simp only [List.getElem?_toArray, List.getElem?_cons_succ, List.getElem?_cons_zero] at x0 a0 a1 a2 b0 b1 b2
            obtain ⟨ke, hke⟩ := (eqAssign_ev ra rb (by have := HLN.out.1; omega) (by have := HLN.out.2; omega) rs).rounds
            have KE := Lib.hid hke
            obtain ⟨kt, hkt⟩ := (eqTypes_ev T HT.out).rounds
            have KTT := Lib.hid hkt
            obtain ⟨kl, hkl⟩ := (lawAssign_ev ra rb (by have := HLN.out.1; omega) (by have := HLN.out.2; omega) rs).rounds
            have KL := Lib.hid hkl
            clear hke hkt hkl
            go_wp2_with fail
            refine (Q.gantrylaw11_num.calls re re _ rfl).mono ?_
            rintro e w6 ⟨rfl, ⟨n1, rfl⟩⟩
            go_wp2_with fail
            refine (Q.gantryref0_EqAssign.calls ke Aa ca ra Ab cb rb rs Ac cc ra Ad cd rb rs true _ (Kd.C_drewN (Kd.R_reads' A5.out.two.a).2.2 _) (Kd.R_reads' A5.out.two.a).2.1 (Kd.C_drewN (Kd.R_reads' A5.out.two.b).2.2 _) (Kd.R_reads' A5.out.two.b).2.1 (Kd.C_drewN (Kd.R_reads' R5.out.a).2.2 _) (Kd.R_reads' R5.out.a).2.1 (Kd.C_drewN (Kd.R_reads' R5.out.b).2.2 _) (Kd.R_reads' R5.out.b).2.1 KE.out).mono ?_
            rintro e w6 ⟨rfl, hb6⟩
            have D6 := Lib.hid (show Below w5.heap.size w5 w6 from (pw_below_drewN (Below.refl _ _) n1).trans hb6)
            have x0' := pw_cell_below D6.out x0
            clear hb6 x0 a0 a1 a2 b0 b1 b2
            go_wp2_with fail
            refine (Q.gantryref0_EqTypes.calls kt At ct T A0 c0 T true _ (Kd.C_below KT'.out D6.out) hct (Kd.C_below K0.out D6.out) l0 KTT.out).mono ?_
            rintro e w7 ⟨rfl, hb7⟩
            have D7 := Lib.hid (D6.out.trans (hb7.mono D6.out.size))
            have A7 := Lib.hid (show AsgAt w3 w7 g (.slice Aa ra.length ca) (.slice Ab rb.length cb) ra rb rs from ⟨(D7.out.block _ (Array.getElem?_eq_some_iff.1 A5.out.blk).1).trans A5.out.blk, A5.out.ge, A5.out.two.below D7.out, A5.out.below.trans (D7.out.mono A5.out.below.size)⟩)
            have a0 := lblk_cell A7.out.blk 0
            have a1 := lblk_cell A7.out.blk 1
            have a2 := lblk_cell A7.out.blk 2
            simp only [List.getElem?_toArray, List.getElem?_cons_succ, List.getElem?_cons_zero] at a0 a1 a2
            clear hb7 x0'
            go_wp2_with fail
            refine (Q.gantrylaw0_Assign.calls kl (fun k_ => some k_ = (Value.slice Aa ra.length ca).ownBlock) (.slice Aa ra.length ca) ra (fun k_ => some k_ = (Value.slice Ab rb.length cb).ownBlock) (.slice Ab rb.length cb) rb rs w3 w7 A7.out.below ⟨fun k hk => hk.symm, A7.out.two.a.2.imp_ (fun _ _ h => h)⟩ (fun k h1 h2 => A7.out.two.a.1 k h1.symm h2) ⟨fun k hk => hk.symm, A7.out.two.b.2.imp_ (fun _ _ h => h)⟩ (fun k h1 h2 => A7.out.two.b.1 k h1.symm h2) KL.out).mono ?_
            rintro e w8 ⟨rfl, hb8, _⟩
            have B8 := Lib.hid (B3.out.trans (hb8.mono B3.out.size))
            clear hb8 a0 a1 a2
            go_wp2
            go_roundg (l.length - (k + 1))
            case measure => have := HG.out; omega
            case rel => exact ⟨k + 1, by omega, Lib.hid (by omega), by go_num, B8⟩
        · have hlen2 : 100 < P.length ∨ (P.length ≤ 100 ∧ 100 < R.length) := by omega
          clear hlen
          go_wp2_with fail
          refine (Q.gantrylaw7_Heavy.calls kh A0 c0 T false _ (Kd.C_below G0.out ((Below.refl _ _).alloc (Nat.le_refl _) _)) l0 HH.out).mono ?_
          rintro e w2 ⟨rfl, ⟨nq, rfl⟩⟩
          have B2 := Lib.hid (pw_below_drewN (HB.out.alloc HB.out.size (.cells #[.slice A0 T.length c0, .slice A1 P.length c1, .slice A2 R.length c2] 70)) nq)
          rcases hlen2 with h1 | ⟨h1, h2⟩
          all_goals
            go_wp2
            go_ret
            exact ⟨rfl, B2.out⟩
    · have hn : ¬ ((k : Int) < (l.length : Int) ∧ (k : Int) < 15) := by omega
      have hn2 : (l.length : Int) ≤ (k : Int) ∨ ((k : Int) < (l.length : Int) ∧ (15 : Int) ≤ k) := by omega
      clear hn hlt
      rcases hn2 with h1 | ⟨h1, h2⟩
      all_goals
        go_wp2_with fail
        refine (Q.gantrylaw11_wakes.calls kw true _ HW.out).mono ?_
        rintro e w2 ⟨rfl, hb2⟩
        have B2 := Lib.hid (HB.out.trans (hb2.mono HB.out.size))
        clear hb2
        go_wp2
        go_ret
        exact ⟨rfl, B2.out⟩
end Go.Proofs.Ytekoogedhmhpgaa

