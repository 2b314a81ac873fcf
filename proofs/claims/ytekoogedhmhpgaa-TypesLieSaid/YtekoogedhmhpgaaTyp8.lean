/- The contract of types.lies. -/
import Derived.Test.YtekoogedhmhpgaaTyp7
import Derived.Test.YtekoogedhmhpgaaQx0
namespace Go.Proofs.Ytekoogedhmhpgaa
open Go.RowKit Go.Proofs.YtekoogedhmhpgaaW.PrintWords

/-- Entry j may stand where it stands. -/
def shapeAt (t : List Q.S124) (j : Nat) : Bool := shapedB (Q.rd_T124 t j).f0 (Q.rd_T124 t j).f1 (Q.rd_T124 t j).f2 (Q.rd_T124 t j).f3 j t.length
theorem shapeAt_def (t : List Q.S124) (j : Nat) : shapeAt t j = shapedB (Q.rd_T124 t j).f0 (Q.rd_T124 t j).f1 (Q.rd_T124 t j).f2 (Q.rd_T124 t j).f3 j t.length := rfl
theorem blk_fz {w : World} {b : Nat} {cs : Array Value} {T : TypeId} (h : w.heap[b]? = some (.cells cs T (0, 0))) (i : Nat) : w.frozen? ⟨b, i, none⟩ = false := by simp [World.frozen?, h]
def allShaped (t : List Q.S124) : Bool := (List.range t.length).all fun i => shapeAt t i
def liesL : List S130 → List Q.S124 → Option (List S130)
  | ls, [] => some ls
  | ls, x :: xs => if 65536 < (oneL ls x.f0 x.f1 x.f2 x.f3).f0 then none else liesL (ls ++ [oneL ls x.f0 x.f1 x.f2 x.f3]) xs
def liesR (t : List Q.S124) : List S130 × Int :=
  if 64 < t.length then ([], 70) else if allShaped t = false then ([], 70) else match liesL [] t with
    | none => ([], 71)
    | some ls => (ls, 0)

theorem shaped_not {t : List Q.S124} {k : Nat} (h : k < t.length) (hs : shapeAt t k = false) : allShaped t = false := by
  cases hb : allShaped t with
  | false => rfl
  | true =>
    have := List.all_eq_true.1 hb k (List.mem_range.2 h)
    rw [hs] at this
    cases this
theorem shaped_all {t : List Q.S124} (h : ∀ j : Nat, j < t.length → shapeAt t j = true) : allShaped t = true :=
  List.all_eq_true.2 fun j hj => h j (List.mem_range.1 hj)
theorem shape_at {t : List Q.S124} {j : Nat} (h : allShaped t = true) (hj : j < t.length) : shapedB (Q.rd_T124 t j).f0 (Q.rd_T124 t j).f1 (Q.rd_T124 t j).f2 (Q.rd_T124 t j).f3 j t.length = true :=
  List.all_eq_true.1 h j (List.mem_range.2 hj)
theorem lie_slices {w : World} {base : Nat} {y : S130} {vk va vf : Value} (h : k130.M w base (fun _ => True) y [.int .i64 y.f0, .int .i64 y.f1, .bool y.f2, vk, va, vf]) : ∃ Ak ck Aa ca Af cf, vk = .slice Ak y.f3.length ck ∧ va = .slice Aa y.f4.length ca ∧ vf = .slice Af y.f5.length cf := by
  obtain ⟨v3, v4, v5, hcs, h3, h4, h5⟩ := k130_openM h
  simp only [List.cons.injEq, true_and, and_true] at hcs
  obtain ⟨rfl, rfl, rfl⟩ := hcs
  obtain ⟨A3, c3, e3⟩ := own_slice (Kd.own_of_R h3)
  obtain ⟨A4, c4, e4⟩ := own_slice (Kd.own_of_R h4)
  obtain ⟨A5, c5, e5⟩ := own_slice (Kd.own_of_R h5)
  exact ⟨A3, c3, A4, c4, A5, c5, e3, e4, e5⟩
theorem lieInfo : (Try.prog.info? 130).map (fun i => (i.zero, i.size, i.bytes)) = some (some (.agg #[.int .i64 0, .int .i64 0, .bool false, .slice none 0 0, .slice none 0 0, .slice none 0 0]), 6, 96) := by kernel_rfl
def StopHere (p : Prop) : Prop := p
theorem stopHere {p : Prop} (h : StopHere p) : p := h
theorem box_set {w : World} {b : Nat} {u : Value} {T : TypeId} (h : w.heap[b]? = some (.cells #[u] T (0, 0))) (v : Value) : (w.setCell ⟨b, 0, none⟩ v).heap[b]? = some (.cells #[v] T (0, 0)) := by
  simp [World.setCell, Array.getElem?_modify, h]
theorem liesL_step {t : List Q.S124} {ls : List S130} {k : Nat} (h : k < t.length) : liesL ls (t.drop k) = if 65536 < (oneL ls (Q.rd_T124 t k).f0 (Q.rd_T124 t k).f1 (Q.rd_T124 t k).f2 (Q.rd_T124 t k).f3).f0 then none else liesL (ls ++ [oneL ls (Q.rd_T124 t k).f0 (Q.rd_T124 t k).f1 (Q.rd_T124 t k).f2 (Q.rd_T124 t k).f3]) (t.drop (k + 1)) := by
  have : Q.rd_T124 t k = t[k] := by
    unfold Q.rd_T124
    rw [List.getD_eq_getElem?_getD, Int.toNat_natCast, List.getElem?_eq_getElem h]
    rfl
  rw [this, List.drop_eq_getElem_cons h]
  rfl
theorem rdT_mem (t : List Q.S124) {k : Nat} (h : k < t.length) : Q.rd_T124 t k ∈ t := by
  unfold Q.rd_T124
  rw [List.getD_eq_getElem?_getD, Int.toNat_natCast, List.getElem?_eq_getElem h]
  exact List.getElem_mem _

set_option maxHeartbeats 4000000 in
set_option maxRecDepth 100000 in
theorem lies_ok (t : List Q.S124) (A : Option Addr) (c : Nat) (w : World) (hA : Kd.C Q.k124 w A t.length t) (hlen : ∀ x ∈ t, x.f3.length ≤ 140737488351232) :
    Calls Try.prog 80 #[.slice A t.length c] w fun e w' => (∃ v, e = .returned (.tuple #[v, .int .i64 (liesR t).2]) ∧ k130.R 130 w' w.heap.size (fun _ => True) v (liesR t).1) ∧ Below w.heap.size w w' := by
  have HA := Lib.hid hA
  clear hA
  by_cases hc : 64 < t.length
  · have hRR : liesR t = ([], 70) := if_pos hc
    rw [hRR]
    clear hRR HA hlen
    have hi : (64 : Int) < t.length := by omega
    go_enter Try.func80, Try.ntmps80
    go_wp2_with fail
    exact bodyPost_ret (v := .tuple #[.slice none 0 0, .int .i64 70]) (by simp [results, Try.results80, go_sem]) rfl ⟨⟨_, rfl, Kd.R_nil _ _ _ _ _⟩, (Below.refl _ _).alloc (Nat.le_refl _) _⟩
  · go_enter Try.func80, Try.ntmps80
    go_wp2_with fail
    go_loopw [14] (fun i wr => ∃ k : Nat, k ≤ t.length ∧ i = .int .i64 k ∧ Hid (∀ j : Nat, j < k → shapeAt t j = true) ∧ Hid (Below w.heap.size w wr) ∧ Hid (wr.heap[w.heap.size]? = some (.cells #[.slice none 0 0] 125))) (fun i _ => t.length - (intOf i).toNat)
    case atStart => exact ⟨0, Nat.zero_le _, rfl, Lib.hid (by intro j hj; omega), Lib.hid ((Below.refl _ _).alloc (Nat.le_refl _) _), Lib.hid (Deep.blk_alloc_new _ _)⟩
    case round =>
      obtain ⟨k, hk, rfl, hS, hB, hX⟩ := hrel
      have hn : t.length ≤ 64 := by omega
      by_cases hlt : k < t.length
      · have hC := Kd.C_below HA.out hB.out
        obtain ⟨ad, A3, c3, rfl, q0, q1, q2, q3, l3, hI⟩ := Q.at_T124 hC (k : Int) (by omega) (by omega)
        rw [Int.toNat_natCast] at q0 q1 q2 q3
        have HI := Lib.hid hI
        have hsh := shapeAt_def t k
        have HSH := Lib.hid hsh
        have hxl := hlen _ (rdT_mem t hlt)
        clear hC hI l3 hsh
        generalize Q.rd_T124 t k = x at *
        have e0 := lblk_cell hX.out 0
        have f0 := blk_fz hX.out 0
        simp only [List.getElem?_toArray, List.getElem?_cons_zero] at e0
        go_wp2_with fail
        refine (shaped_ok x.f0 x.f1 x.f2 k t.length x.f3 A3 c3 _ HI.out hxl).mono ?_
        rintro e w2 ⟨rfl, hb2⟩
        rw [← HSH.out]
        have HX2 := Lib.hid ((hb2.block _ (Array.getElem?_eq_some_iff.1 hX.out).1).trans hX.out)
        have HB2 := Lib.hid (hB.out.trans (hb2.mono hB.out.size))
        clear hb2 hX hB e0 f0 q0 q1 q2 q3
        have e0 := lblk_cell HX2.out 0
        have f0 := blk_fz HX2.out 0
        simp only [List.getElem?_toArray, List.getElem?_cons_zero] at e0
        cases hs : shapeAt t k with
        | true =>
          go_wp2_with fail
          exact ⟨⟨k + 1, by omega, by simp, Lib.hid (fun j hj => (Nat.lt_succ_iff_lt_or_eq.1 hj).elim (hS.out j) (fun h => h ▸ hs)), HB2, HX2⟩, by simp [intOf]; omega⟩
        | false =>
          go_wp2_with fail
          have hR : liesR t = ([], 70) := by
            unfold liesR
            rw [if_neg hc, if_pos (shaped_not hlt hs)]
          have ec := World.cell?_setCell_same w2 ⟨w.heap.size, 0, none⟩ (.slice none 0 0) e0
          rw [hR]
          exact bodyPost_ret (v := .tuple #[.slice none 0 0, .int .i64 70]) (by simp [results, Try.results80, go_sem, ec]) rfl ⟨⟨_, rfl, Kd.R_nil _ _ _ _ _⟩, HB2.out.setCell (p := ⟨w.heap.size, 0, none⟩) (Nat.le_refl _) _⟩
      · have hkl : k = t.length := by omega
        subst hkl
        have HAS := Lib.hid (shaped_all hS.out)
        have e0 := lblk_cell hX.out 0
        have f0 := blk_fz hX.out 0
        simp only [List.getElem?_toArray, List.getElem?_cons_zero] at e0
        clear hS
        go_wp2_with fail
        go_loopw [30] (fun i wr => ∃ k : Nat, ∃ ls : List S130, ∃ B cap, k ≤ t.length ∧ i = .int .i64 k ∧ Hid (liesL [] t = liesL ls (t.drop k)) ∧ Hid (ls.length = k) ∧ Hid (∀ x ∈ ls, LieOk x) ∧ Hid (∀ x ∈ ls, AtIn x) ∧ Hid (Below w.heap.size w wr) ∧ Hid (wr.heap[w.heap.size]? = some (.cells #[.slice B ls.length cap] 125)) ∧ Hid (k130.R 130 wr (w.heap.size + 1) (fun _ => True) (.slice B ls.length cap) ls)) (fun i _ => t.length - (intOf i).toNat)
        case atStart => exact ⟨0, [], none, 0, Nat.zero_le _, rfl, Lib.hid rfl, Lib.hid rfl, Lib.hid (by simp), Lib.hid (by simp), hB, hX, Lib.hid (Kd.R_nil _ _ _ _ _)⟩
        case round =>
          obtain ⟨k, ls, B, cap, hk, rfl, hL, hlk, hO, hI0, hB, hX, hR⟩ := hrel
          have e0 := lblk_cell hX.out 0
          have f0 := blk_fz hX.out 0
          simp only [List.getElem?_toArray, List.getElem?_cons_zero] at e0
          by_cases hlt : k < t.length
          · have hC := Kd.C_below HA.out hB.out
            obtain ⟨ad, A3, c3, rfl, q0, q1, q2, q3, l3, hI⟩ := Q.at_T124 hC (k : Int) (by omega) (by omega)
            rw [Int.toNat_natCast] at q0 q1 q2 q3
            have HI := Lib.hid hI
            have HSH := Lib.hid (shape_at HAS.out hlt)
            clear hC hI l3
            generalize hxe : Q.rd_T124 t k = x at *
            have HXE := Lib.hid hxe
            clear hxe
            go_wp2_with fail
            have hC1 : Kd.C k130 wr B ls.length ls := (Kd.R_reads' hR.out).2.2
            have hsh : shapedB x.f0 x.f1 x.f2 x.f3 ls.length t.length = true := by rw [hlk.out]; exact HSH.out
            have hal : ∀ o, Below wr.heap.size wr (wr.alloc o) := fun o => (Below.refl _ _).alloc (Nat.le_refl _) o
            refine (one_ok x.f0 x.f1 x.f2 x.f3 A3 c3 w.heap.size cap B ls t.length _ (cell_old e0) (Kd.C_below hC1 (hal _)) (Kd.C_below HI.out (hal _)) hsh hO.out).mono ?_
            rintro e w2 ⟨⟨v, rfl, vk, va, vf, rfl, hM⟩, hb2⟩
            have HOK := Lib.hid (fun h => oneL_ok hO.out hI0.out hsh h)
            generalize hye : oneL ls x.f0 x.f1 x.f2 x.f3 = y at *
            have HYE := Lib.hid hye
            have HM := Lib.hid hM
            have HB2 := Lib.hid (hb2.mono (B' := wr.heap.size) (by simp) |> (hal _).trans)
            obtain ⟨Ak, ck, Aa, ca, Af, cf, rfl, rfl, rfl⟩ := lie_slices hM
            have e1 := pw_cell_below HB2.out e0
            have f1 := (HB2.out.frozen (p := ⟨w.heap.size, 0, none⟩) (Array.getElem?_eq_some_iff.1 hX.out).1).trans f0
            have e1o := fun o => cell_old (o := o) e1
            have hlt2 : w.heap.size < w2.heap.size := Nat.lt_of_lt_of_le (Array.getElem?_eq_some_iff.1 hX.out).1 HB2.out.size
            have f1o := fun o => frozen_old (o := o) hlt2 f1
            clear hC1 hsh hal hye hM hb2 q0 q1 q2 q3
            by_cases hbig : 65536 < y.f0
            · go_wp2_with fail
              have hRR : liesR t = ([], 71) := by
                unfold liesR
                rw [if_neg hc, if_neg (by rw [HAS.out]; decide), hL.out, liesL_step hlt, HXE.out, HYE.out, if_pos hbig]
              rw [hRR]
              have ec := fun o => cell_old (o := o) (World.cell?_setCell_same w2 ⟨w.heap.size, 0, none⟩ (.slice none 0 0) e1)
              exact bodyPost_ret (v := .tuple #[.slice none 0 0, .int .i64 71]) (by simp [results, Try.results80, go_sem, ec]) rfl ⟨⟨_, rfl, Kd.R_nil _ _ _ _ _⟩, (((hB.out.trans (HB2.out.mono hB.out.size)).setCell (p := ⟨w.heap.size, 0, none⟩) (Nat.le_refl _) _).alloc (by simpa using Nat.le_of_lt hlt2) _)⟩
            · have HMW := Lib.hid (k130.M_mono (ok' := fun k => wr.heap.size + 1 ≤ k) (fun k hk => by have := hk.2.1; simpa using this) (k130.M_bound HM.out))
              have hW2 : w.heap.size + 1 ≤ w2.heap.size := hlt2
              go_wp2_with (at_builtin; apply stopHere)
              unfold StopHere
              refine Kd.R_append k130 (w0 := w2) (w.heap.size + 1) rfl (.tmp 40) (.tmp 42) 125 130 (.agg #[.int .i64 0, .int .i64 0, .bool false, .slice none 0 0, .slice none 0 0, .slice none 0 0]) 96 rfl Try.underlying125 lieInfo rfl (show 0 < 6 from Nat.succ_pos 5) (Nat.succ_pos 95) (.slice B ls.length cap) ls y [.int .i64 y.f0, .int .i64 y.f1, .bool y.f2, .slice Ak y.f3.length ck, .slice Aa y.f4.length ca, .slice Af y.f5.length cf] (fun _ => True) (fun k => wr.heap.size + 1 ≤ k) rfl ?c0 ?c1 ?c2 ?c3 ?c4 ?c5 ?c6 ?c7 ?_
              case c0 =>
                show Value.slice (some ⟨w2.heap.size + 1, 0, none⟩) 1 1 = .slice (some ⟨(w2.alloc _).heap.size, 0, none⟩) 1 1
                simp
              case c1 => exact k130.M_lower (by have := hB.out.size; have := (Array.getElem?_eq_some_iff.1 hX.out).1; simp; omega) (Kd.M_below HMW.out ((Below.refl _ _).alloc (Nat.le_refl _) _))
              case c2 =>
                intro k1 hk1
                refine ⟨trivial, fun h => ?_⟩
                obtain ⟨_, ho⟩ := Kd.R_own hR.out
                have := own_lt ho k1 h.symm
                omega
              case c3 => intro _ _; trivial
              case c4 => exact Kd.R_below (Kd.R_below hR.out HB2.out) ((Below.refl _ _).alloc (Nat.le_refl _) _)
              case c5 => exact (Below.refl _ _).alloc hW2 _
              case c6 => simp; omega
              case c7 => have := hlk.out; omega
              intro v1 w1 hR1 hB1 hg1 hat1
              obtain ⟨ad1, cap1, rfl⟩ := Kd.R_slice1 hR1 (by simp)
              have HR1 := Lib.hid hR1
              have HB1 := Lib.hid hB1
              have e2 := (hB1.cell (p := ⟨w.heap.size, 0, none⟩) (Nat.lt_succ_self _)).trans e1
              have f2 := (hB1.frozen (p := ⟨w.heap.size, 0, none⟩) (Nat.lt_succ_self _)).trans f1
              have HXB := Lib.hid ((hB1.block _ (Nat.lt_succ_self w.heap.size)).trans ((HB2.out.block _ (Array.getElem?_eq_some_iff.1 hX.out).1).trans hX.out))
              have HBW := Lib.hid ((hB.out.trans (HB2.out.mono hB.out.size)).trans (hB1.mono (Nat.le_succ _)))
              clear hR1 hB1 hg1 hat1
              go_wp2_with fail
              have hyk := HOK.out (by omega)
              refine ⟨⟨k + 1, ls ++ [y], some ad1, cap1, by omega, by simp, Lib.hid ?_, Lib.hid (by have := hlk.out; simp; omega), Lib.hid (fun z hz => (List.mem_append.1 hz).elim (hO.out z) (fun h => by simp at h; subst h; exact hyk.1)), Lib.hid (fun z hz => (List.mem_append.1 hz).elim (hI0.out z) (fun h => by simp at h; subst h; exact hyk.2)), Lib.hid (HBW.out.setCell (p := ⟨w.heap.size, 0, none⟩) (Nat.le_refl _) _), Lib.hid ?_, Lib.hid ?_⟩, by simp [intOf]; omega⟩
              · rw [hL.out, liesL_step hlt, HXE.out, HYE.out, if_neg (by omega)]
              · rw [List.length_append]
                exact box_set HXB.out _
              · rw [List.length_append]
                have h2 := Kd.R_bound HR1.out
                have h3 := Kd.R_move h2 (w1 := w1.setCell ⟨w.heap.size, 0, none⟩ (.slice (some ad1) (ls.length + 1) cap1)) (fun i hi => Below.heap_setCell _ _ _ _ (by have := hi.2.1; simp; omega))
                rw [List.length_append] at h3
                exact Kd.R_mono h3 (fun _ _ => trivial)
          · have hkl : k = t.length := by omega
            subst hkl
            go_wp2_with fail
            have hRR : liesR t = (ls, 0) := by
              unfold liesR
              rw [if_neg hc, if_neg (by rw [HAS.out]; decide), hL.out, List.drop_length]
              rfl
            rw [hRR]
            have ec := World.cell?_setCell_same wr ⟨w.heap.size, 0, none⟩ (.slice B ls.length cap) e0
            have h3 := Kd.R_move (Kd.R_bound hR.out) (w1 := wr.setCell ⟨w.heap.size, 0, none⟩ (.slice B ls.length cap)) (fun i hi => Below.heap_setCell _ _ _ _ (by have := hi.2.1; simp; omega))
            exact bodyPost_ret (v := .tuple #[.slice B ls.length cap, .int .i64 0]) (by simp [results, Try.results80, go_sem, ec]) rfl ⟨⟨_, rfl, Kd.R_lower (Kd.R_mono h3 (fun _ _ => trivial)) (Nat.le_succ _)⟩, hB.out.setCell (p := ⟨w.heap.size, 0, none⟩) (Nat.le_refl _) _⟩
end Go.Proofs.Ytekoogedhmhpgaa
