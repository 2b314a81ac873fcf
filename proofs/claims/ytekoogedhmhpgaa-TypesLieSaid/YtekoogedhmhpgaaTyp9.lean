/- The contracts of types.entry and of what the package types shows. -/
import Derived.Test.YtekoogedhmhpgaaTyp8
namespace Go.Proofs.Ytekoogedhmhpgaa
open Go.RowKit Go.Proofs.YtekoogedhmhpgaaW.PrintWords

def zLie : S130 := ⟨0, 0, false, [], [], []⟩
def entryR (t : List Q.S124) (i : Int) : S130 × Int :=
  if (liesR t).2 = 0 then (if 0 ≤ i ∧ i < (liesR t).1.length then (rd_T130 (liesR t).1 i, 0) else (zLie, 70)) else (zLie, (liesR t).2)

theorem ints_nil (w : World) : IntsAt w none [] := ((Kd.R_reads' (Kd.R_nil (Kd.int .i64) 3 w 0 (fun _ => True))).2.2 : (Kd.int .i64).C w none ([] : List Int).length [])

/-- A lie that is handed over: its rows are read. -/
def LieGot (w : World) (x : S130) (v : Value) : Prop :=
  ∃ A3 c3 A4 c4 A5 c5, v = .agg #[.int .i64 x.f0, .int .i64 x.f1, .bool x.f2, .slice A3 x.f3.length c3, .slice A4 x.f4.length c4, .slice A5 x.f5.length c5] ∧ IntsAt w A3 x.f3 ∧ IntsAt w A4 x.f4 ∧ IntsAt w A5 x.f5

theorem cells_put {w : World} {b : Nat} {cs : Array Value} {T : TypeId} (h : w.heap[b]? = some (.cells cs T (0, 0))) (i : Nat) (v : Value) : (w.setCell ⟨b, i, none⟩ v).heap[b]? = some (.cells (cs.setIfInBounds i v) T (0, 0)) := by
  simp [World.setCell, Array.getElem?_modify, h]
/-- Six stores into a block of six cells. -/
def six (w : World) (b : Nat) (v0 v1 v2 v3 v4 v5 : Value) : World := (((((w.setCell ⟨b, 0, none⟩ v0).setCell ⟨b, 1, none⟩ v1).setCell ⟨b, 2, none⟩ v2).setCell ⟨b, 3, none⟩ v3).setCell ⟨b, 4, none⟩ v4).setCell ⟨b, 5, none⟩ v5
theorem six_blk {w : World} {b : Nat} {u0 u1 u2 u3 u4 u5 : Value} {T : TypeId} (h : w.heap[b]? = some (.cells #[u0, u1, u2, u3, u4, u5] T (0, 0))) (v0 v1 v2 v3 v4 v5 : Value) : (six w b v0 v1 v2 v3 v4 v5).heap[b]? = some (.cells #[v0, v1, v2, v3, v4, v5] T (0, 0)) := by
  have := cells_put (cells_put (cells_put (cells_put (cells_put (cells_put h 0 v0) 1 v1) 2 v2) 3 v3) 4 v4) 5 v5
  simpa [six] using this
theorem six_cells {w : World} {b : Nat} {u0 u1 u2 u3 u4 u5 : Value} {T : TypeId} (h : w.heap[b]? = some (.cells #[u0, u1, u2, u3, u4, u5] T (0, 0))) (v0 v1 v2 v3 v4 v5 : Value) :
    (six w b v0 v1 v2 v3 v4 v5).cell? ⟨b, 0, none⟩ = some v0 ∧ (six w b v0 v1 v2 v3 v4 v5).cell? ⟨b, 1, none⟩ = some v1 ∧ (six w b v0 v1 v2 v3 v4 v5).cell? ⟨b, 2, none⟩ = some v2 ∧ (six w b v0 v1 v2 v3 v4 v5).cell? ⟨b, 3, none⟩ = some v3 ∧ (six w b v0 v1 v2 v3 v4 v5).cell? ⟨b, 4, none⟩ = some v4 ∧ (six w b v0 v1 v2 v3 v4 v5).cell? ⟨b, 5, none⟩ = some v5 :=
  have h := six_blk h v0 v1 v2 v3 v4 v5
  ⟨lblk_cell h 0, lblk_cell h 1, lblk_cell h 2, lblk_cell h 3, lblk_cell h 4, lblk_cell h 5⟩
theorem six_other {w : World} {b : Nat} (v0 v1 v2 v3 v4 v5 : Value) {i : Nat} (h : i ≠ b) : (six w b v0 v1 v2 v3 v4 v5).heap[i]? = w.heap[i]? := by
  unfold six
  simp [World.setCell, Array.getElem?_modify, Ne.symm h]
theorem six_below {w w0 : World} {b B : Nat} (hb : Below B w0 w) (h : B ≤ b) (v0 v1 v2 v3 v4 v5 : Value) : Below B w0 (six w b v0 v1 v2 v3 v4 v5) :=
  (((((hb.setCell (p := ⟨b, 0, none⟩) h _).setCell (p := ⟨b, 1, none⟩) h _).setCell (p := ⟨b, 2, none⟩) h _).setCell (p := ⟨b, 3, none⟩) h _).setCell (p := ⟨b, 4, none⟩) h _).setCell (p := ⟨b, 5, none⟩) h _

/-- What is read out of a row of lies that the call owns stays, where those blocks stay. -/
theorem lie_keep {w2 W' : World} {base : Nat} {ok : Nat → Prop} {B : Option Addr} {n cap : Nat} {ls : List S130} (hR : k130.R 130 w2 base ok (.slice B n cap) ls) (hW : ∀ i, base ≤ i → i < w2.heap.size → W'.heap[i]? = w2.heap[i]?) (i : Int) (h0 : 0 ≤ i) (h1 : i < ls.length)
    {ad : Addr} {A3 A4 A5 : Option Addr} {c3 c4 c5 : Nat} (he : B = some ad)
    (q3 : w2.cell? ⟨(ad.add (i.toNat * 6)).block, (ad.add (i.toNat * 6)).off + 3, none⟩ = some (.slice A3 (rd_T130 ls i).f3.length c3))
    (q4 : w2.cell? ⟨(ad.add (i.toNat * 6)).block, (ad.add (i.toNat * 6)).off + 4, none⟩ = some (.slice A4 (rd_T130 ls i).f4.length c4))
    (q5 : w2.cell? ⟨(ad.add (i.toNat * 6)).block, (ad.add (i.toNat * 6)).off + 5, none⟩ = some (.slice A5 (rd_T130 ls i).f5.length c5)) :
    IntsAt W' A3 (rd_T130 ls i).f3 ∧ IntsAt W' A4 (rd_T130 ls i).f4 ∧ IntsAt W' A5 (rd_T130 ls i).f5 := by
  subst he
  obtain ⟨_, ho⟩ := Kd.R_own hR
  have hlt : ad.block < w2.heap.size := own_lt ho _ rfl
  have hge : base ≤ ad.block := own_ge ho _ rfl
  have hR' := Kd.R_move (Kd.R_bound hR) (w1 := W') (fun k hk => hW k hk.2.1 hk.2.2.1)
  obtain ⟨rfl, _, hC⟩ := Kd.R_reads' hR'
  obtain ⟨ad', A3', c3', A4', c4', A5', c5', e, _, _, _, p3, p4, p5, _, g3, _, g4, _, g5⟩ := at_T130 hC i h0 h1
  cases e
  have hcell : ∀ o, W'.cell? ⟨(ad.add (i.toNat * 6)).block, o, none⟩ = w2.cell? ⟨(ad.add (i.toNat * 6)).block, o, none⟩ := by
    intro o
    unfold World.cell?
    have : (ad.add (i.toNat * 6)).block = ad.block := add_block _ _
    simp only [this]
    rw [hW ad.block hge hlt]
  rw [hcell, q3] at p3
  rw [hcell, q4] at p4
  rw [hcell, q5] at p5
  simp only [Option.some.injEq, Value.slice.injEq] at p3 p4 p5
  rw [p3.1, p4.1, p5.1]
  exact ⟨g3, g4, g5⟩

set_option maxHeartbeats 4000000 in
set_option maxRecDepth 100000 in
theorem entry_ok (t : List Q.S124) (A : Option Addr) (c : Nat) (i : Int) (w : World) (hA : Kd.C Q.k124 w A t.length t) (hlen : ∀ x ∈ t, x.f3.length ≤ 140737488351232) :
    Calls Try.prog 82 #[.slice A t.length c, .int .i64 i] w fun e w' => (∃ v, e = .returned (.tuple #[v, .int .i64 (entryR t i).2]) ∧ LieGot w' (entryR t i).1 v) ∧ Below w.heap.size w w' := by
  have HA := Lib.hid hA
  clear hA
  go_enter Try.func82, Try.ntmps82
  go_wp2_with fail
  have hal : ∀ o, Below w.heap.size w (w.alloc o) := fun o => (Below.refl _ _).alloc (Nat.le_refl _) o
  refine (lies_ok t A c _ (Kd.C_below HA.out (hal _)) hlen).mono ?_
  rintro e w2 ⟨⟨v, rfl, hR⟩, hb⟩
  have HR := Lib.hid hR
  have HX := Lib.hid ((hb.block _ (by simp)).trans (Deep.blk_alloc_new w _))
  have HB := Lib.hid ((hal _).trans (hb.mono (by simp)))
  clear hR hb hal
  generalize hl : liesR t = r at *
  have HL := Lib.hid hl
  clear hl
  obtain ⟨ls, er⟩ := r
  dsimp only at HR ⊢
  obtain ⟨_, ho⟩ := Kd.R_own HR.out
  obtain ⟨B, cap, rfl⟩ := own_slice ho
  have x0 := lblk_cell HX.out 0
  have x1 := lblk_cell HX.out 1
  have x2 := lblk_cell HX.out 2
  have x3 := lblk_cell HX.out 3
  have x4 := lblk_cell HX.out 4
  have x5 := lblk_cell HX.out 5
  have y0 := blk_fz HX.out 0
  have y1 := blk_fz HX.out 1
  have y2 := blk_fz HX.out 2
  have y3 := blk_fz HX.out 3
  have y4 := blk_fz HX.out 4
  have y5 := blk_fz HX.out 5
  simp only [List.getElem?_toArray, List.getElem?_cons_succ, List.getElem?_cons_zero] at x0 x1 x2 x3 x4 x5
  have HC := Lib.hid (Kd.R_reads' HR.out).2.2
  clear ho
  have ec := fun v0 v1 v2 v3 v4 v5 => six_cells HX.out v0 v1 v2 v3 v4 v5
  simp only [six] at ec
  have EC := Lib.hid ec
  clear ec
  by_cases he : er = 0
  · subst he
    by_cases h0 : 0 ≤ i
    · by_cases h1 : i < ls.length
      · obtain ⟨ad, A3, c3, A4, c4, A5, c5, hB', q0, q1, q2, q3, q4, q5, l3, h3, l4, h4, l5, h5⟩ := at_T130 HC.out i h0 h1
        have hE : entryR t i = (rd_T130 ls i, 0) := by
          unfold entryR
          rw [HL.out, if_pos rfl, if_pos ⟨h0, h1⟩]
        have HK := Lib.hid (fun v0 v1 v2 v3 v4 v5 => lie_keep HR.out (W' := six w2 w.heap.size v0 v1 v2 v3 v4 v5) (fun k hk _ => six_other _ _ _ _ _ _ (by simp at hk; omega)) i h0 h1 hB' q3 q4 q5)
        subst hB'
        clear HC
        generalize rd_T130 ls i = x at *
        have HE := Lib.hid hE
        clear l3 h3 l4 h4 l5 h5 hE
        go_wp2_with fail
        obtain ⟨e0, e1, e2, e3, e4, e5⟩ := EC.out (.int .i64 x.f0) (.int .i64 x.f1) (.bool x.f2) (.slice A3 x.f3.length c3) (.slice A4 x.f4.length c4) (.slice A5 x.f5.length c5)
        obtain ⟨g3, g4, g5⟩ := HK.out (.int .i64 x.f0) (.int .i64 x.f1) (.bool x.f2) (.slice A3 x.f3.length c3) (.slice A4 x.f4.length c4) (.slice A5 x.f5.length c5)
        rw [HE.out]
        exact bodyPost_ret (v := .tuple #[.agg #[.int .i64 x.f0, .int .i64 x.f1, .bool x.f2, .slice A3 x.f3.length c3, .slice A4 x.f4.length c4, .slice A5 x.f5.length c5], .int .i64 0]) (by simp [results, Try.results82, go_sem, e0, e1, e2, e3, e4, e5]) rfl ⟨⟨_, rfl, A3, c3, A4, c4, A5, c5, rfl, g3, g4, g5⟩, six_below HB.out (Nat.le_refl _) _ _ _ _ _ _⟩
      · go_wp2_with fail
        obtain ⟨e0, e1, e2, e3, e4, e5⟩ := EC.out (.int .i64 0) (.int .i64 0) (.bool false) (.slice none 0 0) (.slice none 0 0) (.slice none 0 0)
        have hE : entryR t i = (zLie, 70) := by
          unfold entryR
          rw [HL.out, if_pos rfl, if_neg (by simp; omega)]
        rw [hE]
        exact bodyPost_ret (v := .tuple #[.agg #[.int .i64 0, .int .i64 0, .bool false, .slice none 0 0, .slice none 0 0, .slice none 0 0], .int .i64 70]) (by simp [results, Try.results82, go_sem, e0, e1, e2, e3, e4, e5]) rfl ⟨⟨_, rfl, none, 0, none, 0, none, 0, rfl, ints_nil _, ints_nil _, ints_nil _⟩, six_below HB.out (Nat.le_refl _) _ _ _ _ _ _⟩
    · go_wp2_with fail
      obtain ⟨e0, e1, e2, e3, e4, e5⟩ := EC.out (.int .i64 0) (.int .i64 0) (.bool false) (.slice none 0 0) (.slice none 0 0) (.slice none 0 0)
      have hE : entryR t i = (zLie, 70) := by
        unfold entryR
        rw [HL.out, if_pos rfl, if_neg (by simp; omega)]
      rw [hE]
      exact bodyPost_ret (v := .tuple #[.agg #[.int .i64 0, .int .i64 0, .bool false, .slice none 0 0, .slice none 0 0, .slice none 0 0], .int .i64 70]) (by simp [results, Try.results82, go_sem, e0, e1, e2, e3, e4, e5]) rfl ⟨⟨_, rfl, none, 0, none, 0, none, 0, rfl, ints_nil _, ints_nil _, ints_nil _⟩, six_below HB.out (Nat.le_refl _) _ _ _ _ _ _⟩
  · go_wp2_with fail
    obtain ⟨e0, e1, e2, e3, e4, e5⟩ := EC.out (.int .i64 0) (.int .i64 0) (.bool false) (.slice none 0 0) (.slice none 0 0) (.slice none 0 0)
    have hE : entryR t i = (zLie, er) := by
      unfold entryR
      rw [HL.out, if_neg he]
    rw [hE]
    exact bodyPost_ret (v := .tuple #[.agg #[.int .i64 0, .int .i64 0, .bool false, .slice none 0 0, .slice none 0 0, .slice none 0 0], .int .i64 er]) (by simp [results, Try.results82, go_sem, e0, e1, e2, e3, e4, e5]) rfl ⟨⟨_, rfl, none, 0, none, 0, none, 0, rfl, ints_nil _, ints_nil _, ints_nil _⟩, six_below HB.out (Nat.le_refl _) _ _ _ _ _ _⟩
end Go.Proofs.Ytekoogedhmhpgaa
