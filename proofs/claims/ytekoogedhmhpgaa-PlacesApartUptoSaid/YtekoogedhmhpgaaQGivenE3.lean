/- The contract of types.one at any entry that is shaped. The contract of types.lies. The contracts of types.entry and of what the package types shows. The contracts of what the package types shows: Check, Size, Align, Offset, Value, Words. The contracts of slices.Clone at []int and of types.Words. The functions that were proved by hand, for the print: the package types. -/
import Derived.Test.YtekoogedhmhpgaaTyp6E3
import Derived.Test.YtekoogedhmhpgaaQx0E3
import Derived.Laws.CopyOwn
import Derived.WalkSpells
import Derived.Deep.RegionHeld3
namespace Go.Proofs.Ytekoogedhmhpgaa
open Go.RowKit Go.Proofs.YtekoogedhmhpgaaW.PrintWords

/-- How an entry lies, those ahead of it being found. -/
def oneL (ls : List S130) (K E N : Int) (F : List Int) : S130 :=
  if K = 14 ∨ K = 15 then ⟨16, 8, true, [11, 5], [0, 8], []⟩
  else if K = 12 then ⟨N * (rd_T130 ls E).f0, (rd_T130 ls E).f1, false, [], [], []⟩
  else if K = 13 then structL ls F
  else ⟨nbytes K, nbytes K, true, [K], [0], []⟩

theorem entryB_iff {k e : Int} : entryB k e = true ↔ 0 ≤ k ∧ k < e := by simp [entryB]

theorem shape_cases {K E N i n : Int} {F : List Int} (h : shapedB K E N F i n = true) :
    (K = 14 ∨ K = 15) ∨ (K = 12 ∧ (0 ≤ E ∧ E < i) ∧ 0 ≤ N ∧ N ≤ 65536) ∨ (K = 13 ∧ E = 0 ∧ N = 0 ∧ F.length ≤ 16 ∧ ∀ f ∈ F, 0 ≤ f ∧ f < i) ∨ (1 ≤ K ∧ K ≤ 11) := by
  unfold shapedB at h
  split at h
  · omega
  · split at h
    · omega
    · split at h
      · simp only [Bool.and_eq_true, entryB_iff, decide_eq_true_eq] at h
        omega
      · split at h
        · simp only [Bool.and_eq_true, decide_eq_true_eq, List.all_eq_true, entryB_iff] at h
          exact .inr (.inr (.inl ⟨‹K = 13›, h.1.1, h.1.2.1, h.1.2.2, h.2⟩))
        · cases h

theorem one_ok (K E N : Int) (F : List Int) (A : Option Addr) (c lb cap : Nat) (B : Option Addr) (ls : List S130) (n : Int) (w : World) (hb : w.cell? ⟨lb, 0, none⟩ = some (.slice B ls.length cap)) (hl : Kd.C k130 w B ls.length ls) (hA : IntsAt w A F) (hs : shapedB K E N F ls.length n = true) (hok : ∀ x ∈ ls, LieOk x) :
    Calls Try.prog 121 #[.agg #[.int .i64 K, .int .i64 E, .int .i64 N, .slice A F.length c], .func (.func 120) #[] #[.pointer (some ⟨lb, 0, none⟩)]] w fun e w' => (∃ v, e = .returned v ∧ LieVal w' w.heap.size (oneL ls K E N F) v) ∧ Below w.heap.size w w' := by
  rcases shape_cases hs with h | ⟨rfl, hE, hN⟩ | ⟨rfl, rfl, rfl, h16, hF⟩ | h
  · rw [show oneL ls K E N F = ⟨16, 8, true, [11, 5], [0, 8], []⟩ from if_pos h]
    exact one_pair K E N A F.length c _ w h
  · exact one_array E N A F.length c lb cap B ls w hb hl hE.1 hE.2 hN (hok _ (rd_mem hE.1 hE.2)).size
  · exact one_struct F A c lb cap B ls w hb hl hA hF h16 hok
  · rw [show oneL ls K E N F = ⟨nbytes K, nbytes K, true, [K], [0], []⟩ by unfold oneL; rw [if_neg (by omega), if_neg (by omega), if_neg (by omega)]]
    exact one_scalar K E N A F.length c _ w h

theorem foldL_ok (ls : List S130) (hok : ∀ x ∈ ls, LieOk x) (F : List Int) : (∀ f ∈ F, 0 ≤ f ∧ f < ls.length) → YOk F.length (foldL ls F) := by
  have key : ∀ (F : List Int) (k : Nat) (y : S130), YOk k y → (∀ f ∈ F, 0 ≤ f ∧ f < ls.length) → YOk (k + F.length) (F.foldl (fun y f => stepL y (rd_T130 ls f)) y) := by
    intro F
    induction F with
    | nil => intro k y h _; exact h
    | cons f F ih =>
      intro k y h hF
      have hf := hF f (by simp)
      have := ih (k + 1) _ (yOk_step h (hok _ (rd_mem hf.1 hf.2))) (fun g hg => hF g (by simp [hg]))
      rw [List.length_cons, show k + (F.length + 1) = k + 1 + F.length by omega]
      exact this
  intro hF
  have := key F 0 ⟨0, 1, true, [], [], []⟩ ⟨by simp, by simp, rfl, by simp, rfl, by simp⟩ hF
  simpa [foldL] using this

theorem nbytes_of {K : Int} (h : 1 ≤ K ∧ K ≤ 11) : nbytes K = 1 ∨ nbytes K = 2 ∨ nbytes K = 4 ∨ nbytes K = 8 := by
  have : K = 1 ∨ K = 2 ∨ K = 3 ∨ K = 4 ∨ K = 5 ∨ K = 6 ∨ K = 7 ∨ K = 8 ∨ K = 9 ∨ K = 10 ∨ K = 11 := by omega
  rcases this with rfl | rfl | rfl | rfl | rfl | rfl | rfl | rfl | rfl | rfl | rfl <;> decide
/-- Words begin within. -/
def AtIn (x : S130) : Prop := ∀ a ∈ x.f4, a ≤ x.f0

theorem foldL_in (ls : List S130) (hok : ∀ x ∈ ls, LieOk x) (hin : ∀ x ∈ ls, AtIn x) (F : List Int) : (∀ f ∈ F, 0 ≤ f ∧ f < ls.length) → AtIn (foldL ls F) := by
  have key : ∀ (F : List Int) (y : S130), AtIn y → (∀ f ∈ F, 0 ≤ f ∧ f < ls.length) → AtIn (F.foldl (fun y f => stepL y (rd_T130 ls f)) y) := by
    intro F
    induction F with
    | nil => intro y h _; exact h
    | cons f F ih =>
      intro y h hF
      have hf := hF f (by simp)
      refine ih _ ?_ (fun g hg => hF g (by simp [hg]))
      have hx := hok _ (rd_mem hf.1 hf.2)
      have hi := hin _ (rd_mem hf.1 hf.2)
      have hu := upN_bd (n := y.f0) (a := (rd_T130 ls f).f1) (by have := hx.align; omega)
      have hs := hx.size
      intro a ha
      simp only [stepL] at ha ⊢
      split at ha
      · rcases List.mem_append.1 ha with ha | ha
        · have := h a ha; omega
        · obtain ⟨b, hb, rfl⟩ := List.mem_map.1 ha
          have := hi b hb
          omega
      · have := h a ha; omega
  intro hF
  exact key F _ (fun a ha => (by simp at ha)) hF

theorem oneL_ok {ls : List S130} {K E N n : Int} {F : List Int} (hok : ∀ x ∈ ls, LieOk x) (hin : ∀ x ∈ ls, AtIn x) (hs : shapedB K E N F ls.length n = true) (h : (oneL ls K E N F).f0 ≤ 65536) : LieOk (oneL ls K E N F) ∧ AtIn (oneL ls K E N F) := by
  rcases shape_cases hs with h1 | ⟨rfl, hE, hN⟩ | ⟨rfl, rfl, rfl, h16, hF⟩ | h1
  · rw [show oneL ls K E N F = ⟨16, 8, true, [11, 5], [0, 8], []⟩ from if_pos h1]
    refine ⟨⟨by decide, by decide, rfl, by decide, ?_⟩, ?_⟩
    · intro a ha; simp at ha; omega
    · intro a ha; simp at ha; simp; omega
  · have hx := hok _ (rd_mem hE.1 hE.2)
    have he : oneL ls 12 E N F = ⟨N * (rd_T130 ls E).f0, (rd_T130 ls E).f1, false, [], [], []⟩ := rfl
    rw [he] at h ⊢
    refine ⟨⟨⟨Int.mul_nonneg hN.1 hx.size.1, h⟩, hx.align, rfl, by simp, ?_⟩, ?_⟩
    · intro a ha; simp at ha
    · intro a ha; simp at ha
  · have hy := foldL_ok ls hok F hF
    have hi := foldL_in ls hok hin F hF
    have he : oneL ls 13 0 0 F = structL ls F := rfl
    rw [he] at h ⊢
    have hu := upN_bd (n := (foldL ls F).f0) (a := (foldL ls F).f1) (by have := hy.align; omega)
    have h0 := hy.size
    refine ⟨⟨⟨?_, h⟩, hy.align, hy.len, hy.kinds, ?_⟩, ?_⟩
    · simp only [structL]; omega
    · intro a ha
      have h1 := hi a ha
      have h2 := hy.at_ a ha
      simp only [structL] at h
      omega
    · intro a ha
      have h1 := hi a ha
      simp only [structL]
      omega
  · have hn : nbytes K = 1 ∨ nbytes K = 2 ∨ nbytes K = 4 ∨ nbytes K = 8 := nbytes_of h1
    rw [show oneL ls K E N F = ⟨nbytes K, nbytes K, true, [K], [0], []⟩ by unfold oneL; rw [if_neg (by omega), if_neg (by omega), if_neg (by omega)]]
    refine ⟨⟨by simp only; omega, hn, rfl, by simp, ?_⟩, ?_⟩
    · intro a ha; simp at ha; omega
    · intro a ha; simp at ha; simp; omega

end Go.Proofs.Ytekoogedhmhpgaa

namespace Go.Proofs.Ytekoogedhmhpgaa
open Go.RowKit Go.Proofs.YtekoogedhmhpgaaW.PrintWords

/-- Entry j may stand where it stands. -/
def shapeAt (t : List Q.S124) (j : Nat) : Bool := shapedB (Q.rd_T124 t j).f0 (Q.rd_T124 t j).f1 (Q.rd_T124 t j).f2 (Q.rd_T124 t j).f3 j t.length
theorem shapeAt_def (t : List Q.S124) (j : Nat) : shapeAt t j = shapedB (Q.rd_T124 t j).f0 (Q.rd_T124 t j).f1 (Q.rd_T124 t j).f2 (Q.rd_T124 t j).f3 j t.length := rfl
theorem blk_fz {w : World} {b : Nat} {cs : Array Value} {T : TypeId} (h : w.heap[b]? = some (.cells cs T (0, 0))) (i : Nat) : w.frozen? ⟨b, i, none⟩ = false := by simp [World.frozen?, h]
def allShaped (t : List Q.S124) : Bool := (List.range t.length).all fun i => shapeAt t i
def liesL : List S130 → List Q.S124 → Option (List S130)
  | ls, [] => some ls
  | ls, x :: xs => if 65536 < (oneL ls x.f0 x.f1 x.f2 x.f3).f0 then none else liesL (ls ++ [oneL ls x.f0 x.f1 x.f2 x.f3]) xs
def liesR (t : List Q.S124) : List S130 × Int :=
  if 64 < t.length then ([], 70) else if allShaped t = false then ([], 70) else match liesL [] t with
    | none => ([], 71)
    | some ls => (ls, 0)

theorem shaped_not {t : List Q.S124} {k : Nat} (h : k < t.length) (hs : shapeAt t k = false) : allShaped t = false := by
  cases hb : allShaped t with
  | false => rfl
  | true =>
    have := List.all_eq_true.1 hb k (List.mem_range.2 h)
    rw [hs] at this
    cases this
theorem shaped_all {t : List Q.S124} (h : ∀ j : Nat, j < t.length → shapeAt t j = true) : allShaped t = true :=
  List.all_eq_true.2 fun j hj => h j (List.mem_range.1 hj)
theorem shape_at {t : List Q.S124} {j : Nat} (h : allShaped t = true) (hj : j < t.length) : shapedB (Q.rd_T124 t j).f0 (Q.rd_T124 t j).f1 (Q.rd_T124 t j).f2 (Q.rd_T124 t j).f3 j t.length = true :=
  List.all_eq_true.1 h j (List.mem_range.2 hj)
theorem lie_slices {w : World} {base : Nat} {y : S130} {vk va vf : Value} (h : k130.M w base (fun _ => True) y [.int .i64 y.f0, .int .i64 y.f1, .bool y.f2, vk, va, vf]) : ∃ Ak ck Aa ca Af cf, vk = .slice Ak y.f3.length ck ∧ va = .slice Aa y.f4.length ca ∧ vf = .slice Af y.f5.length cf := by
  obtain ⟨v3, v4, v5, hcs, h3, h4, h5⟩ := k130_openM h
  simp only [List.cons.injEq, true_and, and_true] at hcs
  obtain ⟨rfl, rfl, rfl⟩ := hcs
  obtain ⟨A3, c3, e3⟩ := own_slice (Kd.own_of_R h3)
  obtain ⟨A4, c4, e4⟩ := own_slice (Kd.own_of_R h4)
  obtain ⟨A5, c5, e5⟩ := own_slice (Kd.own_of_R h5)
  exact ⟨A3, c3, A4, c4, A5, c5, e3, e4, e5⟩
theorem lieInfo : (Try.prog.info? 130).map (fun i => (i.zero, i.size, i.bytes)) = some (some (.agg #[.int .i64 0, .int .i64 0, .bool false, .slice none 0 0, .slice none 0 0, .slice none 0 0]), 6, 96) := by kernel_rfl
def StopHere (p : Prop) : Prop := p
theorem stopHere {p : Prop} (h : StopHere p) : p := h
theorem box_set {w : World} {b : Nat} {u : Value} {T : TypeId} (h : w.heap[b]? = some (.cells #[u] T (0, 0))) (v : Value) : (w.setCell ⟨b, 0, none⟩ v).heap[b]? = some (.cells #[v] T (0, 0)) := by
  simp [World.setCell, Array.getElem?_modify, h]
theorem liesL_step {t : List Q.S124} {ls : List S130} {k : Nat} (h : k < t.length) : liesL ls (t.drop k) = if 65536 < (oneL ls (Q.rd_T124 t k).f0 (Q.rd_T124 t k).f1 (Q.rd_T124 t k).f2 (Q.rd_T124 t k).f3).f0 then none else liesL (ls ++ [oneL ls (Q.rd_T124 t k).f0 (Q.rd_T124 t k).f1 (Q.rd_T124 t k).f2 (Q.rd_T124 t k).f3]) (t.drop (k + 1)) := by
  have : Q.rd_T124 t k = t[k] := by
    unfold Q.rd_T124
    rw [List.getD_eq_getElem?_getD, Int.toNat_natCast, List.getElem?_eq_getElem h]
    rfl
  rw [this, List.drop_eq_getElem_cons h]
  rfl
theorem rdT_mem (t : List Q.S124) {k : Nat} (h : k < t.length) : Q.rd_T124 t k ∈ t := by
  unfold Q.rd_T124
  rw [List.getD_eq_getElem?_getD, Int.toNat_natCast, List.getElem?_eq_getElem h]
  exact List.getElem_mem _

set_option maxHeartbeats 4000000 in
set_option maxRecDepth 100000 in
theorem lies_ok (t : List Q.S124) (A : Option Addr) (c : Nat) (w : World) (hA : Kd.C Q.k124 w A t.length t) (hlen : ∀ x ∈ t, x.f3.length ≤ 140737488351232) :
    Calls Try.prog 80 #[.slice A t.length c] w fun e w' => (∃ v, e = .returned (.tuple #[v, .int .i64 (liesR t).2]) ∧ k130.R 130 w' w.heap.size (fun _ => True) v (liesR t).1) ∧ Below w.heap.size w w' := by
  have HA := Lib.hid hA
  clear hA
  by_cases hc : 64 < t.length
  · have hRR : liesR t = ([], 70) := if_pos hc
    rw [hRR]
    clear hRR HA hlen
    have hi : (64 : Int) < t.length := by omega
    go_enter Try.func80, Try.ntmps80
    go_wp2_with fail
    exact bodyPost_ret (v := .tuple #[.slice none 0 0, .int .i64 70]) (by simp [results, Try.results80, go_sem]) rfl ⟨⟨_, rfl, Kd.R_nil _ _ _ _ _⟩, (Below.refl _ _).alloc (Nat.le_refl _) _⟩
  · go_enter Try.func80, Try.ntmps80
    go_wp2_with fail
    go_loopw [14] (fun i wr => ∃ k : Nat, k ≤ t.length ∧ i = .int .i64 k ∧ Hid (∀ j : Nat, j < k → shapeAt t j = true) ∧ Hid (Below w.heap.size w wr) ∧ Hid (wr.heap[w.heap.size]? = some (.cells #[.slice none 0 0] 125))) (fun i _ => t.length - (intOf i).toNat)
    case atStart => exact ⟨0, Nat.zero_le _, rfl, Lib.hid (by intro j hj; omega), Lib.hid ((Below.refl _ _).alloc (Nat.le_refl _) _), Lib.hid (Deep.blk_alloc_new _ _)⟩
    case round =>
      obtain ⟨k, hk, rfl, hS, hB, hX⟩ := hrel
      have hn : t.length ≤ 64 := by omega
      by_cases hlt : k < t.length
      · have hC := Kd.C_below HA.out hB.out
        obtain ⟨ad, A3, c3, rfl, q0, q1, q2, q3, l3, hI⟩ := Q.at_T124 hC (k : Int) (by omega) (by omega)
        rw [Int.toNat_natCast] at q0 q1 q2 q3
        have HI := Lib.hid hI
        have hsh := shapeAt_def t k
        have HSH := Lib.hid hsh
        have hxl := hlen _ (rdT_mem t hlt)
        clear hC hI l3 hsh
        generalize Q.rd_T124 t k = x at *
        have e0 := lblk_cell hX.out 0
        have f0 := blk_fz hX.out 0
        simp only [List.getElem?_toArray, List.getElem?_cons_zero] at e0
        go_wp2_with fail
        refine (shaped_ok x.f0 x.f1 x.f2 k t.length x.f3 A3 c3 _ HI.out hxl).mono ?_
        rintro e w2 ⟨rfl, hb2⟩
        rw [← HSH.out]
        have HX2 := Lib.hid ((hb2.block _ (Array.getElem?_eq_some_iff.1 hX.out).1).trans hX.out)
        have HB2 := Lib.hid (hB.out.trans (hb2.mono hB.out.size))
        clear hb2 hX hB e0 f0 q0 q1 q2 q3
        have e0 := lblk_cell HX2.out 0
        have f0 := blk_fz HX2.out 0
        simp only [List.getElem?_toArray, List.getElem?_cons_zero] at e0
        cases hs : shapeAt t k with
        | true =>
          go_wp2_with fail
          exact ⟨⟨k + 1, by omega, by simp, Lib.hid (fun j hj => (Nat.lt_succ_iff_lt_or_eq.1 hj).elim (hS.out j) (fun h => h ▸ hs)), HB2, HX2⟩, by simp [intOf]; omega⟩
        | false =>
          go_wp2_with fail
          have hR : liesR t = ([], 70) := by
            unfold liesR
            rw [if_neg hc, if_pos (shaped_not hlt hs)]
          have ec := World.cell?_setCell_same w2 ⟨w.heap.size, 0, none⟩ (.slice none 0 0) e0
          rw [hR]
          exact bodyPost_ret (v := .tuple #[.slice none 0 0, .int .i64 70]) (by simp [results, Try.results80, go_sem, ec]) rfl ⟨⟨_, rfl, Kd.R_nil _ _ _ _ _⟩, HB2.out.setCell (p := ⟨w.heap.size, 0, none⟩) (Nat.le_refl _) _⟩
      · have hkl : k = t.length := by omega
        subst hkl
        have HAS := Lib.hid (shaped_all hS.out)
        have e0 := lblk_cell hX.out 0
        have f0 := blk_fz hX.out 0
        simp only [List.getElem?_toArray, List.getElem?_cons_zero] at e0
        clear hS
        go_wp2_with fail
        go_loopw [30] (fun i wr => ∃ k : Nat, ∃ ls : List S130, ∃ B cap, k ≤ t.length ∧ i = .int .i64 k ∧ Hid (liesL [] t = liesL ls (t.drop k)) ∧ Hid (ls.length = k) ∧ Hid (∀ x ∈ ls, LieOk x) ∧ Hid (∀ x ∈ ls, AtIn x) ∧ Hid (Below w.heap.size w wr) ∧ Hid (wr.heap[w.heap.size]? = some (.cells #[.slice B ls.length cap] 125)) ∧ Hid (k130.R 130 wr (w.heap.size + 1) (fun _ => True) (.slice B ls.length cap) ls)) (fun i _ => t.length - (intOf i).toNat)
        case atStart => exact ⟨0, [], none, 0, Nat.zero_le _, rfl, Lib.hid rfl, Lib.hid rfl, Lib.hid (by simp), Lib.hid (by simp), hB, hX, Lib.hid (Kd.R_nil _ _ _ _ _)⟩
        case round =>
          obtain ⟨k, ls, B, cap, hk, rfl, hL, hlk, hO, hI0, hB, hX, hR⟩ := hrel
          have e0 := lblk_cell hX.out 0
          have f0 := blk_fz hX.out 0
          simp only [List.getElem?_toArray, List.getElem?_cons_zero] at e0
          by_cases hlt : k < t.length
          · have hC := Kd.C_below HA.out hB.out
            obtain ⟨ad, A3, c3, rfl, q0, q1, q2, q3, l3, hI⟩ := Q.at_T124 hC (k : Int) (by omega) (by omega)
            rw [Int.toNat_natCast] at q0 q1 q2 q3
            have HI := Lib.hid hI
            have HSH := Lib.hid (shape_at HAS.out hlt)
            clear hC hI l3
            generalize hxe : Q.rd_T124 t k = x at *
            have HXE := Lib.hid hxe
            clear hxe
            go_wp2_with fail
            have hC1 : Kd.C k130 wr B ls.length ls := (Kd.R_reads' hR.out).2.2
            have hsh : shapedB x.f0 x.f1 x.f2 x.f3 ls.length t.length = true := by rw [hlk.out]; exact HSH.out
            have hal : ∀ o, Below wr.heap.size wr (wr.alloc o) := fun o => (Below.refl _ _).alloc (Nat.le_refl _) o
            refine (one_ok x.f0 x.f1 x.f2 x.f3 A3 c3 w.heap.size cap B ls t.length _ (cell_old e0) (Kd.C_below hC1 (hal _)) (Kd.C_below HI.out (hal _)) hsh hO.out).mono ?_
            rintro e w2 ⟨⟨v, rfl, vk, va, vf, rfl, hM⟩, hb2⟩
            have HOK := Lib.hid (fun h => oneL_ok hO.out hI0.out hsh h)
            generalize hye : oneL ls x.f0 x.f1 x.f2 x.f3 = y at *
            have HYE := Lib.hid hye
            have HM := Lib.hid hM
            have HB2 := Lib.hid (hb2.mono (B' := wr.heap.size) (by simp) |> (hal _).trans)
            obtain ⟨Ak, ck, Aa, ca, Af, cf, rfl, rfl, rfl⟩ := lie_slices hM
            have e1 := pw_cell_below HB2.out e0
            have f1 := (HB2.out.frozen (p := ⟨w.heap.size, 0, none⟩) (Array.getElem?_eq_some_iff.1 hX.out).1).trans f0
            have e1o := fun o => cell_old (o := o) e1
            have hlt2 : w.heap.size < w2.heap.size := Nat.lt_of_lt_of_le (Array.getElem?_eq_some_iff.1 hX.out).1 HB2.out.size
            have f1o := fun o => frozen_old (o := o) hlt2 f1
            clear hC1 hsh hal hye hM hb2 q0 q1 q2 q3
            by_cases hbig : 65536 < y.f0
            · go_wp2_with fail
              have hRR : liesR t = ([], 71) := by
                unfold liesR
                rw [if_neg hc, if_neg (by rw [HAS.out]; decide), hL.out, liesL_step hlt, HXE.out, HYE.out, if_pos hbig]
              rw [hRR]
              have ec := fun o => cell_old (o := o) (World.cell?_setCell_same w2 ⟨w.heap.size, 0, none⟩ (.slice none 0 0) e1)
              exact bodyPost_ret (v := .tuple #[.slice none 0 0, .int .i64 71]) (by simp [results, Try.results80, go_sem, ec]) rfl ⟨⟨_, rfl, Kd.R_nil _ _ _ _ _⟩, (((hB.out.trans (HB2.out.mono hB.out.size)).setCell (p := ⟨w.heap.size, 0, none⟩) (Nat.le_refl _) _).alloc (by simpa using Nat.le_of_lt hlt2) _)⟩
            · have HMW := Lib.hid (k130.M_mono (ok' := fun k => wr.heap.size + 1 ≤ k) (fun k hk => by have := hk.2.1; simpa using this) (k130.M_bound HM.out))
              have hW2 : w.heap.size + 1 ≤ w2.heap.size := hlt2
              go_wp2_with (at_builtin; apply stopHere)
              unfold StopHere
              refine Kd.R_append k130 (w0 := w2) (w.heap.size + 1) rfl (.tmp 40) (.tmp 42) 125 130 (.agg #[.int .i64 0, .int .i64 0, .bool false, .slice none 0 0, .slice none 0 0, .slice none 0 0]) 96 rfl Try.underlying125 lieInfo rfl (show 0 < 6 from Nat.succ_pos 5) (Nat.succ_pos 95) (.slice B ls.length cap) ls y [.int .i64 y.f0, .int .i64 y.f1, .bool y.f2, .slice Ak y.f3.length ck, .slice Aa y.f4.length ca, .slice Af y.f5.length cf] (fun _ => True) (fun k => wr.heap.size + 1 ≤ k) rfl ?c0 ?c1 ?c2 ?c3 ?c4 ?c5 ?c6 ?c7 ?_
              case c0 =>
                show Value.slice (some ⟨w2.heap.size + 1, 0, none⟩) 1 1 = .slice (some ⟨(w2.alloc _).heap.size, 0, none⟩) 1 1
                simp
              case c1 => exact k130.M_lower (by have := hB.out.size; have := (Array.getElem?_eq_some_iff.1 hX.out).1; simp; omega) (Kd.M_below HMW.out ((Below.refl _ _).alloc (Nat.le_refl _) _))
              case c2 =>
                intro k1 hk1
                refine ⟨trivial, fun h => ?_⟩
                obtain ⟨_, ho⟩ := Kd.R_own hR.out
                have := own_lt ho k1 h.symm
                omega
              case c3 => intro _ _; trivial
              case c4 => exact Kd.R_below (Kd.R_below hR.out HB2.out) ((Below.refl _ _).alloc (Nat.le_refl _) _)
              case c5 => exact (Below.refl _ _).alloc hW2 _
              case c6 => simp; omega
              case c7 => have := hlk.out; omega
              intro v1 w1 hR1 hB1 hg1 hat1
              obtain ⟨ad1, cap1, rfl⟩ := Kd.R_slice1 hR1 (by simp)
              have HR1 := Lib.hid hR1
              have HB1 := Lib.hid hB1
              have e2 := (hB1.cell (p := ⟨w.heap.size, 0, none⟩) (Nat.lt_succ_self _)).trans e1
              have f2 := (hB1.frozen (p := ⟨w.heap.size, 0, none⟩) (Nat.lt_succ_self _)).trans f1
              have HXB := Lib.hid ((hB1.block _ (Nat.lt_succ_self w.heap.size)).trans ((HB2.out.block _ (Array.getElem?_eq_some_iff.1 hX.out).1).trans hX.out))
              have HBW := Lib.hid ((hB.out.trans (HB2.out.mono hB.out.size)).trans (hB1.mono (Nat.le_succ _)))
              clear hR1 hB1 hg1 hat1
              go_wp2_with fail
              have hyk := HOK.out (by omega)
              refine ⟨⟨k + 1, ls ++ [y], some ad1, cap1, by omega, by simp, Lib.hid ?_, Lib.hid (by have := hlk.out; simp; omega), Lib.hid (fun z hz => (List.mem_append.1 hz).elim (hO.out z) (fun h => by simp at h; subst h; exact hyk.1)), Lib.hid (fun z hz => (List.mem_append.1 hz).elim (hI0.out z) (fun h => by simp at h; subst h; exact hyk.2)), Lib.hid (HBW.out.setCell (p := ⟨w.heap.size, 0, none⟩) (Nat.le_refl _) _), Lib.hid ?_, Lib.hid ?_⟩, by simp [intOf]; omega⟩
              · rw [hL.out, liesL_step hlt, HXE.out, HYE.out, if_neg (by omega)]
              · rw [List.length_append]
                exact box_set HXB.out _
              · rw [List.length_append]
                have h2 := Kd.R_bound HR1.out
                have h3 := Kd.R_move h2 (w1 := w1.setCell ⟨w.heap.size, 0, none⟩ (.slice (some ad1) (ls.length + 1) cap1)) (fun i hi => Below.heap_setCell _ _ _ _ (by have := hi.2.1; simp; omega))
                rw [List.length_append] at h3
                exact Kd.R_mono h3 (fun _ _ => trivial)
          · have hkl : k = t.length := by omega
            subst hkl
            go_wp2_with fail
            have hRR : liesR t = (ls, 0) := by
              unfold liesR
              rw [if_neg hc, if_neg (by rw [HAS.out]; decide), hL.out, List.drop_length]
              rfl
            rw [hRR]
            have ec := World.cell?_setCell_same wr ⟨w.heap.size, 0, none⟩ (.slice B ls.length cap) e0
            have h3 := Kd.R_move (Kd.R_bound hR.out) (w1 := wr.setCell ⟨w.heap.size, 0, none⟩ (.slice B ls.length cap)) (fun i hi => Below.heap_setCell _ _ _ _ (by have := hi.2.1; simp; omega))
            exact bodyPost_ret (v := .tuple #[.slice B ls.length cap, .int .i64 0]) (by simp [results, Try.results80, go_sem, ec]) rfl ⟨⟨_, rfl, Kd.R_lower (Kd.R_mono h3 (fun _ _ => trivial)) (Nat.le_succ _)⟩, hB.out.setCell (p := ⟨w.heap.size, 0, none⟩) (Nat.le_refl _) _⟩
end Go.Proofs.Ytekoogedhmhpgaa

namespace Go.Proofs.Ytekoogedhmhpgaa
open Go.RowKit Go.Proofs.YtekoogedhmhpgaaW.PrintWords

def zLie : S130 := ⟨0, 0, false, [], [], []⟩
def entryR (t : List Q.S124) (i : Int) : S130 × Int :=
  if (liesR t).2 = 0 then (if 0 ≤ i ∧ i < (liesR t).1.length then (rd_T130 (liesR t).1 i, 0) else (zLie, 70)) else (zLie, (liesR t).2)

theorem ints_nil (w : World) : IntsAt w none [] := ((Kd.R_reads' (Kd.R_nil (Kd.int .i64) 3 w 0 (fun _ => True))).2.2 : (Kd.int .i64).C w none ([] : List Int).length [])

/-- A lie that is handed over: its rows are read. -/
def LieGot (w : World) (x : S130) (v : Value) : Prop :=
  ∃ A3 c3 A4 c4 A5 c5, v = .agg #[.int .i64 x.f0, .int .i64 x.f1, .bool x.f2, .slice A3 x.f3.length c3, .slice A4 x.f4.length c4, .slice A5 x.f5.length c5] ∧ IntsAt w A3 x.f3 ∧ IntsAt w A4 x.f4 ∧ IntsAt w A5 x.f5

theorem cells_put {w : World} {b : Nat} {cs : Array Value} {T : TypeId} (h : w.heap[b]? = some (.cells cs T (0, 0))) (i : Nat) (v : Value) : (w.setCell ⟨b, i, none⟩ v).heap[b]? = some (.cells (cs.setIfInBounds i v) T (0, 0)) := by
  simp [World.setCell, Array.getElem?_modify, h]
/-- Six stores into a block of six cells. -/
def six (w : World) (b : Nat) (v0 v1 v2 v3 v4 v5 : Value) : World := (((((w.setCell ⟨b, 0, none⟩ v0).setCell ⟨b, 1, none⟩ v1).setCell ⟨b, 2, none⟩ v2).setCell ⟨b, 3, none⟩ v3).setCell ⟨b, 4, none⟩ v4).setCell ⟨b, 5, none⟩ v5
theorem six_blk {w : World} {b : Nat} {u0 u1 u2 u3 u4 u5 : Value} {T : TypeId} (h : w.heap[b]? = some (.cells #[u0, u1, u2, u3, u4, u5] T (0, 0))) (v0 v1 v2 v3 v4 v5 : Value) : (six w b v0 v1 v2 v3 v4 v5).heap[b]? = some (.cells #[v0, v1, v2, v3, v4, v5] T (0, 0)) := by
  have := cells_put (cells_put (cells_put (cells_put (cells_put (cells_put h 0 v0) 1 v1) 2 v2) 3 v3) 4 v4) 5 v5
  simpa [six] using this
theorem six_cells {w : World} {b : Nat} {u0 u1 u2 u3 u4 u5 : Value} {T : TypeId} (h : w.heap[b]? = some (.cells #[u0, u1, u2, u3, u4, u5] T (0, 0))) (v0 v1 v2 v3 v4 v5 : Value) :
    (six w b v0 v1 v2 v3 v4 v5).cell? ⟨b, 0, none⟩ = some v0 ∧ (six w b v0 v1 v2 v3 v4 v5).cell? ⟨b, 1, none⟩ = some v1 ∧ (six w b v0 v1 v2 v3 v4 v5).cell? ⟨b, 2, none⟩ = some v2 ∧ (six w b v0 v1 v2 v3 v4 v5).cell? ⟨b, 3, none⟩ = some v3 ∧ (six w b v0 v1 v2 v3 v4 v5).cell? ⟨b, 4, none⟩ = some v4 ∧ (six w b v0 v1 v2 v3 v4 v5).cell? ⟨b, 5, none⟩ = some v5 :=
  have h := six_blk h v0 v1 v2 v3 v4 v5
  ⟨lblk_cell h 0, lblk_cell h 1, lblk_cell h 2, lblk_cell h 3, lblk_cell h 4, lblk_cell h 5⟩
theorem six_other {w : World} {b : Nat} (v0 v1 v2 v3 v4 v5 : Value) {i : Nat} (h : i ≠ b) : (six w b v0 v1 v2 v3 v4 v5).heap[i]? = w.heap[i]? := by
  unfold six
  simp [World.setCell, Array.getElem?_modify, Ne.symm h]
theorem six_below {w w0 : World} {b B : Nat} (hb : Below B w0 w) (h : B ≤ b) (v0 v1 v2 v3 v4 v5 : Value) : Below B w0 (six w b v0 v1 v2 v3 v4 v5) :=
  (((((hb.setCell (p := ⟨b, 0, none⟩) h _).setCell (p := ⟨b, 1, none⟩) h _).setCell (p := ⟨b, 2, none⟩) h _).setCell (p := ⟨b, 3, none⟩) h _).setCell (p := ⟨b, 4, none⟩) h _).setCell (p := ⟨b, 5, none⟩) h _

/-- What is read out of a row of lies that the call owns stays, where those blocks stay. -/
theorem lie_keep {w2 W' : World} {base : Nat} {ok : Nat → Prop} {B : Option Addr} {n cap : Nat} {ls : List S130} (hR : k130.R 130 w2 base ok (.slice B n cap) ls) (hW : ∀ i, base ≤ i → i < w2.heap.size → W'.heap[i]? = w2.heap[i]?) (i : Int) (h0 : 0 ≤ i) (h1 : i < ls.length)
    {ad : Addr} {A3 A4 A5 : Option Addr} {c3 c4 c5 : Nat} (he : B = some ad)
    (q3 : w2.cell? ⟨(ad.add (i.toNat * 6)).block, (ad.add (i.toNat * 6)).off + 3, none⟩ = some (.slice A3 (rd_T130 ls i).f3.length c3))
    (q4 : w2.cell? ⟨(ad.add (i.toNat * 6)).block, (ad.add (i.toNat * 6)).off + 4, none⟩ = some (.slice A4 (rd_T130 ls i).f4.length c4))
    (q5 : w2.cell? ⟨(ad.add (i.toNat * 6)).block, (ad.add (i.toNat * 6)).off + 5, none⟩ = some (.slice A5 (rd_T130 ls i).f5.length c5)) :
    IntsAt W' A3 (rd_T130 ls i).f3 ∧ IntsAt W' A4 (rd_T130 ls i).f4 ∧ IntsAt W' A5 (rd_T130 ls i).f5 := by
  subst he
  obtain ⟨_, ho⟩ := Kd.R_own hR
  have hlt : ad.block < w2.heap.size := own_lt ho _ rfl
  have hge : base ≤ ad.block := own_ge ho _ rfl
  have hR' := Kd.R_move (Kd.R_bound hR) (w1 := W') (fun k hk => hW k hk.2.1 hk.2.2.1)
  obtain ⟨rfl, _, hC⟩ := Kd.R_reads' hR'
  obtain ⟨ad', A3', c3', A4', c4', A5', c5', e, _, _, _, p3, p4, p5, _, g3, _, g4, _, g5⟩ := at_T130 hC i h0 h1
  cases e
  have hcell : ∀ o, W'.cell? ⟨(ad.add (i.toNat * 6)).block, o, none⟩ = w2.cell? ⟨(ad.add (i.toNat * 6)).block, o, none⟩ := by
    intro o
    unfold World.cell?
    have : (ad.add (i.toNat * 6)).block = ad.block := add_block _ _
    simp only [this]
    rw [hW ad.block hge hlt]
  rw [hcell, q3] at p3
  rw [hcell, q4] at p4
  rw [hcell, q5] at p5
  simp only [Option.some.injEq, Value.slice.injEq] at p3 p4 p5
  rw [p3.1, p4.1, p5.1]
  exact ⟨g3, g4, g5⟩

set_option maxHeartbeats 4000000 in
set_option maxRecDepth 100000 in
theorem entry_ok (t : List Q.S124) (A : Option Addr) (c : Nat) (i : Int) (w : World) (hA : Kd.C Q.k124 w A t.length t) (hlen : ∀ x ∈ t, x.f3.length ≤ 140737488351232) :
    Calls Try.prog 82 #[.slice A t.length c, .int .i64 i] w fun e w' => (∃ v, e = .returned (.tuple #[v, .int .i64 (entryR t i).2]) ∧ LieGot w' (entryR t i).1 v) ∧ Below w.heap.size w w' := by
  have HA := Lib.hid hA
  clear hA
  go_enter Try.func82, Try.ntmps82
  go_wp2_with fail
  have hal : ∀ o, Below w.heap.size w (w.alloc o) := fun o => (Below.refl _ _).alloc (Nat.le_refl _) o
  refine (lies_ok t A c _ (Kd.C_below HA.out (hal _)) hlen).mono ?_
  rintro e w2 ⟨⟨v, rfl, hR⟩, hb⟩
  have HR := Lib.hid hR
  have HX := Lib.hid ((hb.block _ (by simp)).trans (Deep.blk_alloc_new w _))
  have HB := Lib.hid ((hal _).trans (hb.mono (by simp)))
  clear hR hb hal
  generalize hl : liesR t = r at *
  have HL := Lib.hid hl
  clear hl
  obtain ⟨ls, er⟩ := r
  dsimp only at HR ⊢
  obtain ⟨_, ho⟩ := Kd.R_own HR.out
  obtain ⟨B, cap, rfl⟩ := own_slice ho
  have x0 := lblk_cell HX.out 0
  have x1 := lblk_cell HX.out 1
  have x2 := lblk_cell HX.out 2
  have x3 := lblk_cell HX.out 3
  have x4 := lblk_cell HX.out 4
  have x5 := lblk_cell HX.out 5
  have y0 := blk_fz HX.out 0
  have y1 := blk_fz HX.out 1
  have y2 := blk_fz HX.out 2
  have y3 := blk_fz HX.out 3
  have y4 := blk_fz HX.out 4
  have y5 := blk_fz HX.out 5
  simp only [List.getElem?_toArray, List.getElem?_cons_succ, List.getElem?_cons_zero] at x0 x1 x2 x3 x4 x5
  have HC := Lib.hid (Kd.R_reads' HR.out).2.2
  clear ho
  have ec := fun v0 v1 v2 v3 v4 v5 => six_cells HX.out v0 v1 v2 v3 v4 v5
  simp only [six] at ec
  have EC := Lib.hid ec
  clear ec
  by_cases he : er = 0
  · subst he
    by_cases h0 : 0 ≤ i
    · by_cases h1 : i < ls.length
      · obtain ⟨ad, A3, c3, A4, c4, A5, c5, hB', q0, q1, q2, q3, q4, q5, l3, h3, l4, h4, l5, h5⟩ := at_T130 HC.out i h0 h1
        have hE : entryR t i = (rd_T130 ls i, 0) := by
          unfold entryR
          rw [HL.out, if_pos rfl, if_pos ⟨h0, h1⟩]
        have HK := Lib.hid (fun v0 v1 v2 v3 v4 v5 => lie_keep HR.out (W' := six w2 w.heap.size v0 v1 v2 v3 v4 v5) (fun k hk _ => six_other _ _ _ _ _ _ (by simp at hk; omega)) i h0 h1 hB' q3 q4 q5)
        subst hB'
        clear HC
        generalize rd_T130 ls i = x at *
        have HE := Lib.hid hE
        clear l3 h3 l4 h4 l5 h5 hE
        go_wp2_with fail
        obtain ⟨e0, e1, e2, e3, e4, e5⟩ := EC.out (.int .i64 x.f0) (.int .i64 x.f1) (.bool x.f2) (.slice A3 x.f3.length c3) (.slice A4 x.f4.length c4) (.slice A5 x.f5.length c5)
        obtain ⟨g3, g4, g5⟩ := HK.out (.int .i64 x.f0) (.int .i64 x.f1) (.bool x.f2) (.slice A3 x.f3.length c3) (.slice A4 x.f4.length c4) (.slice A5 x.f5.length c5)
        rw [HE.out]
        exact bodyPost_ret (v := .tuple #[.agg #[.int .i64 x.f0, .int .i64 x.f1, .bool x.f2, .slice A3 x.f3.length c3, .slice A4 x.f4.length c4, .slice A5 x.f5.length c5], .int .i64 0]) (by simp [results, Try.results82, go_sem, e0, e1, e2, e3, e4, e5]) rfl ⟨⟨_, rfl, A3, c3, A4, c4, A5, c5, rfl, g3, g4, g5⟩, six_below HB.out (Nat.le_refl _) _ _ _ _ _ _⟩
      · go_wp2_with fail
        obtain ⟨e0, e1, e2, e3, e4, e5⟩ := EC.out (.int .i64 0) (.int .i64 0) (.bool false) (.slice none 0 0) (.slice none 0 0) (.slice none 0 0)
        have hE : entryR t i = (zLie, 70) := by
          unfold entryR
          rw [HL.out, if_pos rfl, if_neg (by simp; omega)]
        rw [hE]
        exact bodyPost_ret (v := .tuple #[.agg #[.int .i64 0, .int .i64 0, .bool false, .slice none 0 0, .slice none 0 0, .slice none 0 0], .int .i64 70]) (by simp [results, Try.results82, go_sem, e0, e1, e2, e3, e4, e5]) rfl ⟨⟨_, rfl, none, 0, none, 0, none, 0, rfl, ints_nil _, ints_nil _, ints_nil _⟩, six_below HB.out (Nat.le_refl _) _ _ _ _ _ _⟩
    · go_wp2_with fail
      obtain ⟨e0, e1, e2, e3, e4, e5⟩ := EC.out (.int .i64 0) (.int .i64 0) (.bool false) (.slice none 0 0) (.slice none 0 0) (.slice none 0 0)
      have hE : entryR t i = (zLie, 70) := by
        unfold entryR
        rw [HL.out, if_pos rfl, if_neg (by simp; omega)]
      rw [hE]
      exact bodyPost_ret (v := .tuple #[.agg #[.int .i64 0, .int .i64 0, .bool false, .slice none 0 0, .slice none 0 0, .slice none 0 0], .int .i64 70]) (by simp [results, Try.results82, go_sem, e0, e1, e2, e3, e4, e5]) rfl ⟨⟨_, rfl, none, 0, none, 0, none, 0, rfl, ints_nil _, ints_nil _, ints_nil _⟩, six_below HB.out (Nat.le_refl _) _ _ _ _ _ _⟩
  · go_wp2_with fail
    obtain ⟨e0, e1, e2, e3, e4, e5⟩ := EC.out (.int .i64 0) (.int .i64 0) (.bool false) (.slice none 0 0) (.slice none 0 0) (.slice none 0 0)
    have hE : entryR t i = (zLie, er) := by
      unfold entryR
      rw [HL.out, if_neg he]
    rw [hE]
    exact bodyPost_ret (v := .tuple #[.agg #[.int .i64 0, .int .i64 0, .bool false, .slice none 0 0, .slice none 0 0, .slice none 0 0], .int .i64 er]) (by simp [results, Try.results82, go_sem, e0, e1, e2, e3, e4, e5]) rfl ⟨⟨_, rfl, none, 0, none, 0, none, 0, rfl, ints_nil _, ints_nil _, ints_nil _⟩, six_below HB.out (Nat.le_refl _) _ _ _ _ _ _⟩
end Go.Proofs.Ytekoogedhmhpgaa

namespace Go.Proofs.Ytekoogedhmhpgaa
open Go.RowKit Go.Proofs.YtekoogedhmhpgaaW.PrintWords
set_option linter.unusedVariables false

theorem liesL_good {t : List Q.S124} (ht : allShaped t = true) : ∀ (m k : Nat) (ls r : List S130), t.length - k = m → k ≤ t.length → ls.length = k → (∀ x ∈ ls, LieOk x) → (∀ x ∈ ls, AtIn x) → liesL ls (t.drop k) = some r → (∀ x ∈ r, LieOk x) ∧ (∀ x ∈ r, AtIn x) ∧ r.length = t.length := by
  intro m
  induction m with
  | zero =>
    intro k ls r hm hk hl ho hi h
    have : k = t.length := by omega
    subst this
    rw [List.drop_length, liesL] at h
    cases h
    exact ⟨ho, hi, hl⟩
  | succ m ih =>
    intro k ls r hm hk hl ho hi h
    have hlt : k < t.length := by omega
    rw [liesL_step hlt] at h
    split at h
    · cases h
    · rename_i hbig
      have hs := shape_at ht hlt
      have hk2 := oneL_ok (n := t.length) ho hi (by rw [hl]; exact hs) (by omega)
      refine ih (k + 1) _ r (by omega) (by omega) (by simp [hl]) ?_ ?_ h
      · intro z hz
        rcases List.mem_append.1 hz with hz | hz
        · exact ho z hz
        · simp at hz; subst hz; exact hk2.1
      · intro z hz
        rcases List.mem_append.1 hz with hz | hz
        · exact hi z hz
        · simp at hz; subst hz; exact hk2.2
theorem lies_good {t : List Q.S124} {ls : List S130} (h : liesR t = (ls, 0)) : (∀ x ∈ ls, LieOk x) ∧ (∀ x ∈ ls, AtIn x) ∧ ls.length = t.length := by
  unfold liesR at h
  split at h
  · cases h
  · split at h
    · cases h
    · rename_i hs
      have hs' : allShaped t = true := by cases hb : allShaped t <;> simp_all
      cases hL : liesL [] t with
      | none => rw [hL] at h; cases h
      | some r =>
        rw [hL] at h
        simp at h
        subst h
        exact liesL_good hs' t.length 0 [] r (by omega) (by omega) rfl (by simp) (by simp) (by simpa using hL)
theorem entry_good {t : List Q.S124} {i : Int} {x : S130} (h : entryR t i = (x, 0)) : LieOk x ∧ AtIn x := by
  unfold entryR at h
  split at h
  · rename_i h0
    split at h
    · rename_i h1
      obtain ⟨hg, hi, _⟩ := lies_good (ls := (liesR t).1) (by rw [← h0])
      cases h
      exact ⟨hg _ (rd_mem h1.1 h1.2), hi _ (rd_mem h1.1 h1.2)⟩
    · cases h
  · rename_i h0
    exact absurd (Prod.mk.injEq _ _ _ _ ▸ h).2 h0
/-- The lengths within are such as can be. -/
def lenB (t : List Q.S124) : Bool := t.all fun x => decide (x.f3.length ≤ 140737488351232)
theorem lenB_of {t : List Q.S124} (h : lenB t = true) : ∀ x ∈ t, x.f3.length ≤ 140737488351232 := fun x hx => by simpa using List.all_eq_true.1 h x hx

namespace Q
def types_Check.f (t : List Q.S124) : Option Int := if lenB t = true then some (liesR t).2 else none
set_option maxHeartbeats 4000000 in
set_option maxRecDepth 100000 in
theorem types_Check.calls (A0 : Option Addr) (c0 : Nat) (l0 : List Q.S124) (r : Int) (w : World) (hr0 : Kd.C Q.k124 w A0 l0.length l0) (hc0 : l0.length ≤ c0) (h : types_Check.f l0 = some r) :
    Calls Try.prog 26 #[.slice A0 l0.length c0] w fun e w' => e = .returned (.int .i64 r) ∧ Below w.heap.size w w' := by
  unfold types_Check.f at h
  split at h
  · rename_i hb
    have HB := Lib.hid (lenB_of hb)
    have HR := Lib.hid hr0
    cases h
    clear hb hc0 hr0
    go_enter Try.func26, Try.ntmps26
    go_wp2_with fail
    refine (lies_ok l0 A0 c0 _ HR.out HB.out).mono ?_
    rintro e w2 ⟨⟨v, rfl, hR⟩, hb2⟩
    go_wp2
    go_ret
    exact ⟨rfl, hb2⟩
  · cases h

def types_Size.f (t : List Q.S124) (i : Int) : Option (Int × Int) := if lenB t = true then some ((entryR t i).1.f0, (entryR t i).2) else none
set_option maxHeartbeats 4000000 in
set_option maxRecDepth 100000 in
theorem types_Size.calls (A0 : Option Addr) (c0 : Nat) (l0 : List Q.S124) (a1 : Int) (r1 : Int) (r2 : Int) (w : World) (hr0 : Kd.C Q.k124 w A0 l0.length l0) (hc0 : l0.length ≤ c0) (h : types_Size.f l0 a1 = some (r1, r2)) :
    Calls Try.prog 28 #[.slice A0 l0.length c0, .int .i64 a1] w fun e w' => e = .returned (.tuple #[.int .i64 r1, .int .i64 r2]) ∧ Below w.heap.size w w' := by
  unfold types_Size.f at h
  split at h
  · rename_i hb
    have HB := Lib.hid (lenB_of hb)
    have HR := Lib.hid hr0
    have H := Lib.hid (Option.some.inj h)
    clear hb hc0 hr0 h
    go_enter Try.func28, Try.ntmps28
    go_wp2_with fail
    refine (entry_ok l0 A0 c0 a1 _ HR.out HB.out).mono ?_
    rintro e w2 ⟨⟨v, rfl, A3, c3, A4, c4, A5, c5, rfl, h3, h4, h5⟩, hb2⟩
    have HB2 := Lib.hid hb2
    generalize entryR l0 a1 = r at *
    obtain ⟨x, er⟩ := r
    clear h3 h4 h5 hb2
    go_wp2
    go_ret2
    have := H.out
    simp only [Prod.mk.injEq] at this
    obtain ⟨rfl, rfl⟩ := this
    exact ⟨rfl, HB2.out.alloc HB2.out.size _⟩
  · cases h

def types_Align.f (t : List Q.S124) (i : Int) : Option (Int × Int) := if lenB t = true then some ((entryR t i).1.f1, (entryR t i).2) else none
set_option maxHeartbeats 4000000 in
set_option maxRecDepth 100000 in
theorem types_Align.calls (A0 : Option Addr) (c0 : Nat) (l0 : List Q.S124) (a1 : Int) (r1 : Int) (r2 : Int) (w : World) (hr0 : Kd.C Q.k124 w A0 l0.length l0) (hc0 : l0.length ≤ c0) (h : types_Align.f l0 a1 = some (r1, r2)) :
    Calls Try.prog 29 #[.slice A0 l0.length c0, .int .i64 a1] w fun e w' => e = .returned (.tuple #[.int .i64 r1, .int .i64 r2]) ∧ Below w.heap.size w w' := by
  unfold types_Align.f at h
  split at h
  · rename_i hb
    have HB := Lib.hid (lenB_of hb)
    have HR := Lib.hid hr0
    have H := Lib.hid (Option.some.inj h)
    clear hb hc0 hr0 h
    go_enter Try.func29, Try.ntmps29
    go_wp2_with fail
    refine (entry_ok l0 A0 c0 a1 _ HR.out HB.out).mono ?_
    rintro e w2 ⟨⟨v, rfl, A3, c3, A4, c4, A5, c5, rfl, h3, h4, h5⟩, hb2⟩
    have HB2 := Lib.hid hb2
    generalize entryR l0 a1 = r at *
    obtain ⟨x, er⟩ := r
    clear h3 h4 h5 hb2
    go_wp2
    go_ret2
    have := H.out
    simp only [Prod.mk.injEq] at this
    obtain ⟨rfl, rfl⟩ := this
    exact ⟨rfl, HB2.out.alloc HB2.out.size _⟩
  · cases h

def types_Value.f (t : List Q.S124) (i : Int) : Option (Bool × Int) := if lenB t = true then some ((entryR t i).1.f2, (entryR t i).2) else none
set_option maxHeartbeats 4000000 in
set_option maxRecDepth 100000 in
theorem types_Value.calls (A0 : Option Addr) (c0 : Nat) (l0 : List Q.S124) (a1 : Int) (r1 : Bool) (r2 : Int) (w : World) (hr0 : Kd.C Q.k124 w A0 l0.length l0) (hc0 : l0.length ≤ c0) (h : types_Value.f l0 a1 = some (r1, r2)) :
    Calls Try.prog 86 #[.slice A0 l0.length c0, .int .i64 a1] w fun e w' => e = .returned (.tuple #[.bool r1, .int .i64 r2]) ∧ Below w.heap.size w w' := by
  unfold types_Value.f at h
  split at h
  · rename_i hb
    have HB := Lib.hid (lenB_of hb)
    have HR := Lib.hid hr0
    have H := Lib.hid (Option.some.inj h)
    clear hb hc0 hr0 h
    go_enter Try.func86, Try.ntmps86
    go_wp2_with fail
    refine (entry_ok l0 A0 c0 a1 _ HR.out HB.out).mono ?_
    rintro e w2 ⟨⟨v, rfl, A3, c3, A4, c4, A5, c5, rfl, h3, h4, h5⟩, hb2⟩
    have HB2 := Lib.hid hb2
    generalize entryR l0 a1 = r at *
    obtain ⟨x, er⟩ := r
    clear h3 h4 h5 hb2
    go_wp2
    go_ret2
    have := H.out
    simp only [Prod.mk.injEq] at this
    obtain ⟨rfl, rfl⟩ := this
    exact ⟨rfl, HB2.out.alloc HB2.out.size _⟩
  · cases h

def types_Offset.f (t : List Q.S124) (i f : Int) : Option (Int × Int) := if lenB t = true then some (if (entryR t i).2 = 0 then (if 0 ≤ f ∧ f < (entryR t i).1.f5.length then (rd (entryR t i).1.f5 f, 0) else (0, 70)) else (0, (entryR t i).2)) else none
set_option maxHeartbeats 4000000 in
set_option maxRecDepth 100000 in
theorem types_Offset.calls (A0 : Option Addr) (c0 : Nat) (l0 : List Q.S124) (a1 a2 : Int) (r1 : Int) (r2 : Int) (w : World) (hr0 : Kd.C Q.k124 w A0 l0.length l0) (hc0 : l0.length ≤ c0) (h : types_Offset.f l0 a1 a2 = some (r1, r2)) :
    Calls Try.prog 83 #[.slice A0 l0.length c0, .int .i64 a1, .int .i64 a2] w fun e w' => e = .returned (.tuple #[.int .i64 r1, .int .i64 r2]) ∧ Below w.heap.size w w' := by
  unfold types_Offset.f at h
  split at h
  · rename_i hb
    have HB := Lib.hid (lenB_of hb)
    have HR := Lib.hid hr0
    have H := Lib.hid (Option.some.inj h)
    clear hb hc0 hr0 h
    go_enter Try.func83, Try.ntmps83
    go_wp2_with fail
    refine (entry_ok l0 A0 c0 a1 _ HR.out HB.out).mono ?_
    rintro e w2 ⟨⟨v, rfl, A3, c3, A4, c4, A5, c5, rfl, h3, h4, h5⟩, hb2⟩
    have HB2 := Lib.hid hb2
    generalize entryR l0 a1 = r at *
    obtain ⟨x, er⟩ := r
    dsimp only at H h5 ⊢
    have HH := H.out
    by_cases he : er = 0
    · subst he
      rw [if_pos rfl] at HH
      by_cases hf : 0 ≤ a2 ∧ a2 < x.f5.length
      · rw [if_pos hf] at HH
        obtain ⟨hf0, hf1⟩ := hf
        obtain ⟨ad, rfl, hcell⟩ := IntsAt.cell h5 (by omega)
        have hck : w2.cell? (ad.add a2.toNat) = some (.int .i64 (rd x.f5 a2)) := hcell a2.toNat (by omega)
        have hco := fun o => cell_old (o := o) hck
        have HH' := Lib.hid HH
        clear h3 h4 h5 hb2 HH H hcell hck
        go_wp2
        go_ret2
        have := HH'.out
        simp only [Prod.mk.injEq] at this
        obtain ⟨rfl, rfl⟩ := this
        exact ⟨rfl, HB2.out.alloc HB2.out.size _⟩
      · rw [if_neg hf] at HH
        have HH' := Lib.hid HH
        have hf' : a2 < 0 ∨ (x.f5.length : Int) ≤ a2 := by omega
        clear h3 h4 h5 hb2 HH H hf
        rcases hf' with hf | hf
        all_goals
          go_wp2
          go_ret2
          have := HH'.out
          simp only [Prod.mk.injEq] at this
          obtain ⟨rfl, rfl⟩ := this
          exact ⟨rfl, HB2.out.alloc HB2.out.size _⟩
    · rw [if_neg he] at HH
      have HH' := Lib.hid HH
      clear h3 h4 h5 hb2 HH H
      go_wp2
      go_ret2
      have := HH'.out
      simp only [Prod.mk.injEq] at this
      obtain ⟨rfl, rfl⟩ := this
      exact ⟨rfl, HB2.out.alloc HB2.out.size _⟩
  · cases h

end Q
end Go.Proofs.Ytekoogedhmhpgaa

namespace Go.Proofs.Ytekoogedhmhpgaa
open Go.RowKit Go.Proofs.YtekoogedhmhpgaaW.PrintWords
set_option linter.unusedVariables false

theorem infoI : (Try.prog.info? 3).map (fun i => (i.zero, i.size, i.bytes)) = some (some (.int .i64 0), 1, 8) := by kernel_rfl
theorem own_emptyI (w : World) (e : TypeId) : (w.alloc (.cells #[] e)).ownsRow w.heap.size e 1 (.slice (some ⟨w.heap.size, 0, none⟩) 0 0) 0 [] :=
  ⟨rfl, .inr ⟨w.heap.size, 0, #[], rfl, Nat.le_refl _, Deep.blk_alloc_new _ _, Nat.le_refl _, by unfold maxLen; omega, rfl, rfl⟩⟩
theorem ints_cells {w : World} {A : Option Addr} {ad : Addr} {l : List Int} (h : IntsAt w A l) (he : A = some ad) : ∀ j u, (nums .i64 l)[j]? = some u → w.cell? (ad.add j) = some u := by
  intro j u hj
  have hjm : j < l.length := by have := (List.getElem?_eq_some_iff.1 hj).1; rwa [nums_length] at this
  obtain ⟨ad', h', hc⟩ := IntsAt.cell h (by omega)
  rw [he] at h'
  cases h'
  have := hc j hjm
  rw [this]
  simp [nums, hjm] at hj
  rw [← hj, List.getD_eq_getElem?_getD, List.getElem?_eq_getElem hjm]
  rfl

set_option maxHeartbeats 4000000 in
set_option maxRecDepth 100000 in
theorem cloneI_ok (A : Option Addr) (c : Nat) (l : List Int) (w : World) (hA : IntsAt w A l) (hl : l.length ≤ 1000000) :
    Calls Try.prog 122 #[.slice A l.length c] w fun e w' => (∃ A' c', e = .returned (.slice A' l.length c') ∧ (Kd.int .i64).R 3 w' w.heap.size (fun _ => True) (.slice A' l.length c') l) ∧ Below w.heap.size w w' := by
  obtain ⟨i0, hi, hz0, hz1, hz2⟩ := info_parts infoI
  have HA := Lib.hid hA
  clear hA
  cases A with
  | none =>
    have h0 : l = [] := by
      cases l with
      | nil => rfl
      | cons x l => obtain ⟨ad, h, _⟩ := IntsAt.cell HA.out (by simp); cases h
    subst h0
    have hq := fun (wx : World) => Lib.run_eql_slice_nil (P := Try.prog) wx 55 3 none 0 c 0 0 Try.underlying55
    go_enter Try.func122, Try.ntmps122
    go_wp2
    go_ret
    exact ⟨⟨none, 0, rfl, Kd.R_nil _ _ _ _ _⟩, Below.refl _ _⟩
  | some ad =>
    have hq := fun (wx : World) => Lib.run_eql_slice_nil (P := Try.prog) wx 55 3 (some ad) l.length c 0 0 Try.underlying55
    go_enter Try.func122, Try.ntmps122
    go_wp2_with (at_builtin; refine wpList_append_own _ rfl (.tmp 5) (.tmp 6) 55 rfl w.heap.size 3 i0 (.int .i64 0) 1 8 Try.underlying55 hi hz0 hz1 hz2 rfl (by decide) _ 0 [] rfl (own_emptyI w _) ad l.length c (nums .i64 l) rfl ?c1 ?c2 ?c3 ?c4 ?c5 ?c6 ?_)
    case c1 => rw [nums_length, Nat.mul_one]
    case c2 => exact fun j u hj => cell_old (ints_cells HA.out rfl j u hj)
    case c3 =>
      intro u hu
      simp only [nums, List.mem_map] at hu
      obtain ⟨_, _, rfl⟩ := hu
      rfl
    case c4 => unfold maxLen; omega
    case c5 => omega
    case c6 => simp
    intro v' w1 hown hgrow _
    have hB : Below w.heap.size w w1 := ((Below.refl _ _).alloc (Nat.le_refl _) _).grown hgrow (by simp) (fun k hk => by simp [Value.ownBlock] at hk; omega)
    have hown' : w1.ownsRow w.heap.size 3 1 v' l.length (nums .i64 l) := by simpa using hown
    have O := Lib.hid (show (Kd.int .i64).R 3 w1 w.heap.size (fun _ => True) v' l from Kd.R_of_own hown' (fun _ _ => trivial))
    obtain ⟨A', c', rfl⟩ := own_slice hown'
    clear hown hgrow hown'
    go_wp2
    go_ret
    exact ⟨⟨A', c', rfl, O.out⟩, hB⟩

theorem ints_drew {w : World} {A : Option Addr} {l : List Int} (h : (Kd.int .i64).C w A l.length l) : (Kd.int .i64).C w.drew A l.length l := h
/-- Two rows that are made one behind the other. -/
theorem two_rows {w w1 w2 : World} {v v' : Value} {l l' : List Int} (h : (Kd.int .i64).R 3 w1 w.heap.size (fun _ => True) v l) (h' : (Kd.int .i64).R 3 w2 w1.heap.size (fun _ => True) v' l') (hb : Below w1.heap.size w1 w2) (hs : w.heap.size ≤ w1.heap.size) :
    (Kd.int .i64).R 3 w2 w.heap.size (fun k_ => some k_ ≠ v'.ownBlock) v l ∧ (Kd.int .i64).R 3 w2 w.heap.size (fun k_ => some k_ ≠ v.ownBlock) v' l' := by
  obtain ⟨_, o⟩ := Kd.R_own h
  obtain ⟨_, o'⟩ := Kd.R_own h'
  refine ⟨Kd.R_mono (Kd.R_below (Kd.R_bound h) hb) (fun k hk e => ?_), Kd.R_lower (Kd.R_mono (Kd.R_bound h') (fun k hk e => ?_)) hs⟩
  · have := own_ge o' k e.symm
    omega
  · have := own_lt o k e.symm
    omega

namespace Q
def types_Words.f (t : List Q.S124) (i : Int) : Option (List Int × List Int × Int) := if lenB t = true then some (if (entryR t i).2 = 0 then (if (entryR t i).1.f2 = true then ((entryR t i).1.f3, (entryR t i).1.f4, 0) else ([], [], 70)) else ([], [], (entryR t i).2)) else none
set_option maxHeartbeats 4000000 in
set_option maxRecDepth 100000 in
theorem types_Words.calls (A0 : Option Addr) (c0 : Nat) (l0 : List Q.S124) (a1 : Int) (r1 r2 : List Int) (r3 : Int) (w : World) (hr0 : Kd.C Q.k124 w A0 l0.length l0) (hc0 : l0.length ≤ c0) (h : types_Words.f l0 a1 = some (r1, r2, r3)) :
    Calls Try.prog 84 #[.slice A0 l0.length c0, .int .i64 a1] w fun e w' => ∃ v0_ v1_ : Value, e = .returned (.tuple #[v0_, v1_, .int .i64 r3]) ∧ Kd.R (Kd.int .i64) 3 w' w.heap.size (fun k_ => some k_ ≠ (v1_ : Value).ownBlock) v0_ r1 ∧ Kd.R (Kd.int .i64) 3 w' w.heap.size (fun k_ => some k_ ≠ (v0_ : Value).ownBlock) v1_ r2 ∧ Below w.heap.size w w' := by
  unfold types_Words.f at h
  split at h
  · rename_i hb
    have HB := Lib.hid (lenB_of hb)
    have HR := Lib.hid hr0
    have H := Lib.hid (Option.some.inj h)
    clear hb hc0 hr0 h
    go_enter Try.func84, Try.ntmps84
    go_wp2_with fail
    refine (entry_ok l0 A0 c0 a1 _ HR.out HB.out).mono ?_
    rintro e w2 ⟨⟨v, rfl, A3, c3, A4, c4, A5, c5, rfl, h3, h4, h5⟩, hb2⟩
    have HB2 := Lib.hid hb2
    have hgood := entry_good (t := l0) (i := a1) (x := (entryR l0 a1).1)
    have hgood' : (entryR l0 a1).2 = 0 → LieOk (entryR l0 a1).1 := fun h0 => (hgood (by rw [← h0])).1
    clear hgood
    generalize entryR l0 a1 = r at *
    obtain ⟨x, er⟩ := r
    dsimp only at H h3 h4 h5 hgood' ⊢
    have HH := H.out
    by_cases he : er = 0
    · subst he
      rw [if_pos rfl] at HH
      have hg := hgood' rfl
      have hk3 := hg.kinds
      have hk4 := hg.len
      obtain ⟨f0, f1, f2, f3, f4, f5⟩ := x
      dsimp only at *
      cases f2 with
      | true =>
        rw [if_pos rfl] at HH
        have HH' := Lib.hid HH
        have H3 := Lib.hid h3
        have H4 := Lib.hid h4
        have K4 := Lib.hid hk4
        clear h3 h4 h5 hb2 HH H hgood' hg hk4
        go_wp2_with fail
        have HW := Lib.hid (Below.refl (w2.alloc (.cells #[.int .i64 f0, .int .i64 f1, .bool true, .slice A3 f3.length c3, .slice A4 f4.length c4, .slice A5 f5.length c5] 130)).heap.size (w2.alloc (.cells #[.int .i64 f0, .int .i64 f1, .bool true, .slice A3 f3.length c3, .slice A4 f4.length c4, .slice A5 f5.length c5] 130)))
        have c3' : (w2.alloc (.cells #[.int .i64 f0, .int .i64 f1, .bool true, .slice A3 f3.length c3, .slice A4 f4.length c4, .slice A5 f5.length c5] 130)).cell? ⟨w2.heap.size, 3, none⟩ = some (.slice A3 f3.length c3) := by simp
        have c4' : (w2.alloc (.cells #[.int .i64 f0, .int .i64 f1, .bool true, .slice A3 f3.length c3, .slice A4 f4.length c4, .slice A5 f5.length c5] 130)).cell? ⟨w2.heap.size, 4, none⟩ = some (.slice A4 f4.length c4) := by simp
        have hz : w2.heap.size < (w2.alloc (.cells #[.int .i64 f0, .int .i64 f1, .bool true, .slice A3 f3.length c3, .slice A4 f4.length c4, .slice A5 f5.length c5] 130)).heap.size := by simp
        have hB3 := Lib.hid (Kd.C_below H3.out ((Below.refl _ _).alloc (Nat.le_refl _) (.cells #[.int .i64 f0, .int .i64 f1, .bool true, .slice A3 f3.length c3, .slice A4 f4.length c4, .slice A5 f5.length c5] 130)))
        have hB4 := Lib.hid (Kd.C_below H4.out ((Below.refl _ _).alloc (Nat.le_refl _) (.cells #[.int .i64 f0, .int .i64 f1, .bool true, .slice A3 f3.length c3, .slice A4 f4.length c4, .slice A5 f5.length c5] 130)))
        have HB3 := Lib.hid (HB2.out.alloc HB2.out.size (.cells #[.int .i64 f0, .int .i64 f1, .bool true, .slice A3 f3.length c3, .slice A4 f4.length c4, .slice A5 f5.length c5] 130))
        clear HW
        generalize w2.alloc (.cells #[.int .i64 f0, .int .i64 f1, .bool true, .slice A3 f3.length c3, .slice A4 f4.length c4, .slice A5 f5.length c5] 130) = w3 at *

        go_region_held3 (fun w' => w'.cell? ⟨w2.heap.size, 3, none⟩ = some (.slice A3 f3.length c3) ∧ w'.cell? ⟨w2.heap.size, 4, none⟩ = some (.slice A4 f4.length c4))
          (first
            | go_keep
            | exact ⟨pw_cell_below hcb.out c3', pw_cell_below hcb.out c4'⟩
            | exact ⟨pw_cell_below hcb'.out (pw_cell_below hcb.out c3'), pw_cell_below hcb'.out (pw_cell_below hcb.out c4')⟩)
          (first
            | (go_simp; go_at_call 122; refine (cloneI_ok A3 c3 f3 _ (ints_drew hB3.out) (by omega)).mono ?_; rintro e w5 ⟨⟨A', c', rfl, hcr⟩, hcb0⟩; have hcb := Lib.hid hcb0; clear hcb0; dsimp only)
            | (go_simp; go_at_call 122; refine (cloneI_ok A4 c4 f4 _ (Kd.C_below (ints_drew hB4.out) hcb.out) (by have := K4.out; omega)).mono ?_; rintro e w6 ⟨⟨A'', c'', rfl, hcr'⟩, hcb0⟩; have hcb' := Lib.hid hcb0; clear hcb0; dsimp only))
        have hzz : w.heap.size ≤ w3.drew.heap.size := HB3.out.size
        obtain ⟨R1, R2⟩ := two_rows hcr hcr' hcb'.out hcb.out.size
        have RR1 := Lib.hid (Kd.R_lower R1 hzz)
        have RR2 := Lib.hid (Kd.R_lower R2 hzz)
        have BB := Lib.hid ((show Below w.heap.size w w3.drew from HB3.out.drew).trans ((hcb.out.trans (hcb'.out.mono hcb.out.size)).mono hzz))
        clear hcr hcr' hcb hcb' R1 R2
        go_wp2
        go_ret3
        have := HH'.out
        simp only [Prod.mk.injEq] at this
        obtain ⟨rfl, rfl, rfl⟩ := this
        exact ⟨_, _, rfl, RR1.out, RR2.out, BB.out⟩
      | false =>
        rw [if_neg (by simp)] at HH
        have HH' := Lib.hid HH
        clear h3 h4 h5 hb2 HH H hgood' hg hk4
        go_wp2
        go_ret3
        have := HH'.out
        simp only [Prod.mk.injEq] at this
        obtain ⟨rfl, rfl, rfl⟩ := this
        exact ⟨_, _, rfl, Kd.R_nil _ _ _ _ _, Kd.R_nil _ _ _ _ _, HB2.out.alloc HB2.out.size _⟩
    · rw [if_neg he] at HH
      have HH' := Lib.hid HH
      clear h3 h4 h5 hb2 HH H hgood'
      go_wp2
      go_ret3
      have := HH'.out
      simp only [Prod.mk.injEq] at this
      obtain ⟨rfl, rfl, rfl⟩ := this
      exact ⟨_, _, rfl, Kd.R_nil _ _ _ _ _, Kd.R_nil _ _ _ _ _, HB2.out.alloc HB2.out.size _⟩
  · cases h

end Q
end Go.Proofs.Ytekoogedhmhpgaa

namespace Go.Proofs.Ytekoogedhmhpgaa.Q
end Go.Proofs.Ytekoogedhmhpgaa.Q

