/- The contract of gantryref7.Words over a table that lies. -/
import Derived.Test.YtekoogedhmhpgaaLotsE3
import Derived.Test.YtekoogedhmhpgaaWMore
import Derived.BigQuiet
import Derived.Deep.QuietTactic
namespace Go.Proofs.Ytekoogedhmhpgaa
open Go.RowKit Go.Proofs.YtekoogedhmhpgaaW.PrintWords
set_option linter.unusedVariables false

theorem lot_get {w : World} {base n cap : Nat} {ok : Nat → Prop} {B : Option Addr} {l : List Lot} (h : kLot.R 187 w base ok (.slice B n cap) l) (i : Int) (h0 : 0 ≤ i) (h1 : i < n) :
    ∃ ad A0 c0 A1 c1, B = some ad ∧ w.cell? (ad.add (i.toNat * 3)) = some (.slice A0 (Q.rd_T187 l i).f0.length c0) ∧ w.cell? ⟨(ad.add (i.toNat * 3)).block, (ad.add (i.toNat * 3)).off + 1, none⟩ = some (.slice A1 (Q.rd_T187 l i).f1.length c1) ∧ w.cell? ⟨(ad.add (i.toNat * 3)).block, (ad.add (i.toNat * 3)).off + 2, none⟩ = some (.bool (Q.rd_T187 l i).f2) ∧
      (Kd.int .i64).R 3 w base (fun k_ => some k_ ≠ (Value.slice A1 (Q.rd_T187 l i).f1.length c1).ownBlock) (.slice A0 (Q.rd_T187 l i).f0.length c0) (Q.rd_T187 l i).f0 ∧ (Kd.int .i64).R 3 w base (fun k_ => some k_ ≠ (Value.slice A0 (Q.rd_T187 l i).f0.length c0).ownBlock) (.slice A1 (Q.rd_T187 l i).f1.length c1) (Q.rd_T187 l i).f1 := by
  obtain ⟨hn, _, _⟩ := Kd.R_reads' h
  obtain ⟨ad, A0, c0, A1, c1, he, p0, p1, p2, _⟩ := Q.at_T187 (kLot_C (Kd.R_reads' h).2.2) i h0 (by rw [← hn]; exact h1)
  subst he
  obtain ⟨c, hcl, ⟨hM, v0, v1, v2, hc, hap⟩, hcell⟩ := Go.Proofs.YtekoogedhmhpgaaW.PrintMore.Kd.R_get h Q.z187 i h0 h1
  obtain ⟨u0, u1, hcu, r0, r1⟩ := Q.k187_openM hM
  rw [hcu] at hc hcell
  simp only [List.cons.injEq, and_true] at hc
  obtain ⟨rfl, rfl, _⟩ := hc
  have d0 := hcell 0 _ rfl
  have d1 := hcell 1 _ rfl
  rw [show kLot.sz = 3 from rfl] at d0 d1
  rw [Nat.add_zero] at d0
  rw [add_field _ _ 1 (by omega)] at d1
  rw [p0] at d0
  rw [p1] at d1
  have e0 := Option.some.inj d0
  have e1 := Option.some.inj d1
  refine ⟨ad, A0, c0, A1, c1, rfl, p0, p1, p2, ?_, ?_⟩
  · rw [e0, e1]
    refine ⟨fun k hk he => ?_, r0.2.imp_ (fun _ _ h => h)⟩
    rcases hap with ha | ha
    · rw [ha] at hk; cases hk
    · exact ha (hk.trans he)
  · rw [e0, e1]
    refine ⟨fun k hk he => ?_, r1.2.imp_ (fun _ _ h => h)⟩
    rcases hap.symm with ha | ha
    · rw [ha] at hk; cases hk
    · exact ha (hk.trans he)

def okTB (t : List Q.S124) : Bool := decide (t.length ≤ 2932031007317) && t.all fun x => decide (x.f3.length ≤ 17592186043904)
theorem okTB_of {t : List Q.S124} (h : okTB t = true) : okT t := by
  unfold okTB at h
  simp only [Bool.and_eq_true, decide_eq_true_eq, List.all_eq_true] at h
  exact h
theorem okT.B {t : List Q.S124} (h : okT t) : okTB t = true := by
  unfold okTB
  simp only [Bool.and_eq_true, decide_eq_true_eq, List.all_eq_true]
  exact h

def WordsPost (ls : List S130) (i : Int) (w : World) (e : Ending) (w' : World) : Prop := ∃ v0_ v1_ : Value, e = .returned (.tuple #[v0_, v1_, .bool (rd_T130 ls i).f2]) ∧ Kd.R (Kd.int .i64) 3 w' w.heap.size (fun k_ => some k_ ≠ (v1_ : Value).ownBlock) v0_ (if (rd_T130 ls i).f2 = true then (rd_T130 ls i).f3 else []) ∧ Kd.R (Kd.int .i64) 3 w' w.heap.size (fun k_ => some k_ ≠ (v0_ : Value).ownBlock) v1_ (if (rd_T130 ls i).f2 = true then (rd_T130 ls i).f4 else []) ∧ Below w.heap.size w w'

set_option maxHeartbeats 4000000 in
set_option maxRecDepth 100000 in
theorem refWords_ok (t : List Q.S124) (ls : List S130) (h : Lies t ls) (i : Nat) (hi : i < t.length) (A : Option Addr) (c : Nat) (w : World) (hA : Kd.C Q.k124 w A t.length t) (hc : t.length ≤ c) :
    Calls Try.prog 88 #[.slice A t.length c, .int .i64 i] w (WordsPost ls i w) := by
  have H := Lib.hid h
  have HA := Lib.hid hA
  have h64 := (lies_at h.eq).2.2.1
  obtain ⟨i07, hi07, _, hsz7, _⟩ := info_parts Q.info124
  have hcut := cut_to (P := Try.prog) 54 124 .i64 Try.underlying54 hi07 A t.length c ((i : Int) + 1) (by omega) (by omega) hc
  have hr7 := Kd.C_take (m := i + 1) hA (by omega)
  have hlen : (t.take (i + 1)).length = i + 1 := by rw [List.length_take]; omega
  rw [show ((i : Int) + 1).toNat = i + 1 by omega] at hcut
  have LK : ∀ wx, Kd.C Q.k124 wx A (t.take (i + 1)).length (t.take (i + 1)) → Calls Try.prog 125 #[.slice A (i + 1) c] wx (LotsGot t ls (i + 1) wx) := fun wx hx => by
    have := lots_ok t ls h (i + 1) (by omega) A c wx hx (by omega)
    rwa [hlen] at this
  have HLK := Lib.hid LK
  have HR7 := Lib.hid hr7
  clear h hA hr7 hlen LK hsz7 hi07
  go_enter Try.func88, Try.ntmps88
  go_wp2_with fail
  refine (HLK.out _ HR7.out).mono ?_
  rintro e w2 ⟨B, cap, l, rfl, hR, hT, hb⟩
  have hl := hT.1
  obtain ⟨ad, A0, c0, A1, c1, rfl, p0, p1, p2, r0, r1⟩ := lot_get hR i (by omega) (by omega)
  rw [Int.toNat_natCast] at p0 p1 p2
  have hlo := hT.2 i (by omega)
  have HB2 := Lib.hid hb
  clear hR hT hb
  generalize Q.rd_T187 l i = x at *
  have R0 := Lib.hid r0
  have R1 := Lib.hid r1
  have HLO := Lib.hid hlo
  clear r0 r1 hlo hcut
  have hcase : ((rd_T130 ls i).f2 = true ∧ x.f2 = false ∧ x.f0.length ≤ 16) ∨ ((rd_T130 ls i).f2 = false ∧ x.f2 = true) ∨ ((rd_T130 ls i).f2 = false ∧ x.f2 = false ∧ 16 < x.f0.length) := by
    rcases HLO.out.2.2.2 with ⟨h1, h2, h3, h4, h5⟩ | ⟨h1, h2⟩
    · exact .inl ⟨h1, h2, h5⟩
    · rcases h2 with h2 | h2
      · exact .inr (.inl ⟨h1, h2⟩)
      · cases hx : x.f2 with
        | true => exact .inr (.inl ⟨h1, rfl⟩)
        | false => exact .inr (.inr ⟨h1, rfl, by omega⟩)
  have hil : (i : Int) < (l.length : Int) := by omega
  rcases hcase with ⟨h1, h2, h3⟩ | ⟨h1, h2⟩ | ⟨h1, h2, h3⟩
  · have hE : x.f0 = (rd_T130 ls i).f3 ∧ x.f1 = (rd_T130 ls i).f4 := by
      rcases HLO.out.2.2.2 with ⟨_, _, h4, h5, _⟩ | ⟨h4, _⟩
      · exact ⟨h4, h5⟩
      · rw [h1] at h4; cases h4
    have HE := Lib.hid hE
    have H1 := Lib.hid h1
    rw [h2] at p2
    clear h1 h2 hE
    go_wp2_with fail
    go_quiet (fail)
    go_wp2
    go_ret3
    unfold WordsPost
    rw [H1.out]
    simp only [if_true]
    rw [← HE.out.1, ← HE.out.2]
    exact ⟨_, _, rfl, Kd.R_below R0.out (pw_below_drewN ((Below.refl _ _).alloc (Nat.le_refl _) _) _), Kd.R_below R1.out (pw_below_drewN ((Below.refl _ _).alloc (Nat.le_refl _) _) _), pw_below_drewN (HB2.out.alloc HB2.out.size _) _⟩
  all_goals
    have H1 := Lib.hid h1
    rw [h2] at p2
    clear h1 h2
    go_wp2
    go_ret3
    unfold WordsPost
    rw [H1.out]
    simp only [Bool.false_eq_true, if_false]
    exact ⟨_, _, rfl, Kd.R_nil _ _ _ _ _, Kd.R_nil _ _ _ _ _, HB2.out.alloc HB2.out.size _⟩

namespace Q
def gantryref7_Words.f (t : List Q.S124) (i : Int) : Option (List Int × List Int × Bool) := if okTB t = true ∧ (liesR t).2 = 0 ∧ 0 ≤ i ∧ i < t.length then some (if (Go.Proofs.Ytekoogedhmhpgaa.rd_T130 (liesR t).1 i).f2 = true then (Go.Proofs.Ytekoogedhmhpgaa.rd_T130 (liesR t).1 i).f3 else [], if (Go.Proofs.Ytekoogedhmhpgaa.rd_T130 (liesR t).1 i).f2 = true then (Go.Proofs.Ytekoogedhmhpgaa.rd_T130 (liesR t).1 i).f4 else [], (Go.Proofs.Ytekoogedhmhpgaa.rd_T130 (liesR t).1 i).f2) else none
theorem gantryref7_Words.calls (A0 : Option Addr) (c0 : Nat) (l0 : List Q.S124) (a1 : Int) (r1 r2 : List Int) (r3 : Bool) (w : World) (hr0 : Kd.C Q.k124 w A0 l0.length l0) (hc0 : l0.length ≤ c0) (h : gantryref7_Words.f l0 a1 = some (r1, r2, r3)) :
    Calls Try.prog 88 #[.slice A0 l0.length c0, .int .i64 a1] w fun e w' => ∃ v0_ v1_ : Value, e = .returned (.tuple #[v0_, v1_, .bool r3]) ∧ Kd.R (Kd.int .i64) 3 w' w.heap.size (fun k_ => some k_ ≠ (v1_ : Value).ownBlock) v0_ r1 ∧ Kd.R (Kd.int .i64) 3 w' w.heap.size (fun k_ => some k_ ≠ (v0_ : Value).ownBlock) v1_ r2 ∧ Below w.heap.size w w' := by
  unfold gantryref7_Words.f at h
  split at h
  · rename_i hh
    obtain ⟨h1, h2, h3, h4⟩ := hh
    have h := Option.some.inj h
    simp only [Prod.mk.injEq] at h
    obtain ⟨rfl, rfl, rfl⟩ := h
    obtain ⟨i, rfl⟩ : ∃ i : Nat, a1 = i := ⟨a1.toNat, by omega⟩
    exact refWords_ok l0 (liesR l0).1 ⟨okTB_of h1, by rw [← h2]⟩ i (by omega) A0 c0 w hr0 hc0
  · cases h
end Q
end Go.Proofs.Ytekoogedhmhpgaa

