/- The contracts of slices.Clone at []int and of types.Words. -/
import Derived.Test.YtekoogedhmhpgaaTypA
import Derived.Deep.RegionHeld3
namespace Go.Proofs.Ytekoogedhmhpgaa
open Go.RowKit Go.Proofs.YtekoogedhmhpgaaW.PrintWords
set_option linter.unusedVariables false

theorem infoI : (Try.prog.info? 3).map (fun i => (i.zero, i.size, i.bytes)) = some (some (.int .i64 0), 1, 8) := by kernel_rfl
theorem own_emptyI (w : World) (e : TypeId) : (w.alloc (.cells #[] e)).ownsRow w.heap.size e 1 (.slice (some ⟨w.heap.size, 0, none⟩) 0 0) 0 [] :=
  ⟨rfl, .inr ⟨w.heap.size, 0, #[], rfl, Nat.le_refl _, Deep.blk_alloc_new _ _, Nat.le_refl _, by unfold maxLen; omega, rfl, rfl⟩⟩
theorem ints_cells {w : World} {A : Option Addr} {ad : Addr} {l : List Int} (h : IntsAt w A l) (he : A = some ad) : ∀ j u, (nums .i64 l)[j]? = some u → w.cell? (ad.add j) = some u := by
  intro j u hj
  have hjm : j < l.length := by have := (List.getElem?_eq_some_iff.1 hj).1; rwa [nums_length] at this
  obtain ⟨ad', h', hc⟩ := IntsAt.cell h (by omega)
  rw [he] at h'
  cases h'
  have := hc j hjm
  rw [this]
  simp [nums, hjm] at hj
  rw [← hj, List.getD_eq_getElem?_getD, List.getElem?_eq_getElem hjm]
  rfl

set_option maxHeartbeats 4000000 in
set_option maxRecDepth 100000 in
theorem cloneI_ok (A : Option Addr) (c : Nat) (l : List Int) (w : World) (hA : IntsAt w A l) (hl : l.length ≤ 1000000) :
    Calls Try.prog 122 #[.slice A l.length c] w fun e w' => (∃ A' c', e = .returned (.slice A' l.length c') ∧ (Kd.int .i64).R 3 w' w.heap.size (fun _ => True) (.slice A' l.length c') l) ∧ Below w.heap.size w w' := by
  obtain ⟨i0, hi, hz0, hz1, hz2⟩ := info_parts infoI
  have HA := Lib.hid hA
  clear hA
  cases A with
  | none =>
    have h0 : l = [] := by
      cases l with
      | nil => rfl
      | cons x l => obtain ⟨ad, h, _⟩ := IntsAt.cell HA.out (by simp); cases h
    subst h0
    have hq := fun (wx : World) => Lib.run_eql_slice_nil (P := Try.prog) wx 55 3 none 0 c 0 0 Try.underlying55
    go_enter Try.func122, Try.ntmps122
    go_wp2
    go_ret
    exact ⟨⟨none, 0, rfl, Kd.R_nil _ _ _ _ _⟩, Below.refl _ _⟩
  | some ad =>
    have hq := fun (wx : World) => Lib.run_eql_slice_nil (P := Try.prog) wx 55 3 (some ad) l.length c 0 0 Try.underlying55
    go_enter Try.func122, Try.ntmps122
    go_wp2_with (at_builtin; refine wpList_append_own _ rfl (.tmp 5) (.tmp 6) 55 rfl w.heap.size 3 i0 (.int .i64 0) 1 8 Try.underlying55 hi hz0 hz1 hz2 rfl (by decide) _ 0 [] rfl (own_emptyI w _) ad l.length c (nums .i64 l) rfl ?c1 ?c2 ?c3 ?c4 ?c5 ?c6 ?_)
    case c1 => rw [nums_length, Nat.mul_one]
    case c2 => exact fun j u hj => cell_old (ints_cells HA.out rfl j u hj)
    case c3 =>
      intro u hu
      simp only [nums, List.mem_map] at hu
      obtain ⟨_, _, rfl⟩ := hu
      rfl
    case c4 => unfold maxLen; omega
    case c5 => omega
    case c6 => simp
    intro v' w1 hown hgrow _
    have hB : Below w.heap.size w w1 := ((Below.refl _ _).alloc (Nat.le_refl _) _).grown hgrow (by simp) (fun k hk => by simp [Value.ownBlock] at hk; omega)
    have hown' : w1.ownsRow w.heap.size 3 1 v' l.length (nums .i64 l) := by simpa using hown
    have O := Lib.hid (show (Kd.int .i64).R 3 w1 w.heap.size (fun _ => True) v' l from Kd.R_of_own hown' (fun _ _ => trivial))
    obtain ⟨A', c', rfl⟩ := own_slice hown'
    clear hown hgrow hown'
    go_wp2
    go_ret
    exact ⟨⟨A', c', rfl, O.out⟩, hB⟩

theorem ints_drew {w : World} {A : Option Addr} {l : List Int} (h : (Kd.int .i64).C w A l.length l) : (Kd.int .i64).C w.drew A l.length l := h
/-- Two rows that are made one behind the other. -/
theorem two_rows {w w1 w2 : World} {v v' : Value} {l l' : List Int} (h : (Kd.int .i64).R 3 w1 w.heap.size (fun _ => True) v l) (h' : (Kd.int .i64).R 3 w2 w1.heap.size (fun _ => True) v' l') (hb : Below w1.heap.size w1 w2) (hs : w.heap.size ≤ w1.heap.size) :
    (Kd.int .i64).R 3 w2 w.heap.size (fun k_ => some k_ ≠ v'.ownBlock) v l ∧ (Kd.int .i64).R 3 w2 w.heap.size (fun k_ => some k_ ≠ v.ownBlock) v' l' := by
  obtain ⟨_, o⟩ := Kd.R_own h
  obtain ⟨_, o'⟩ := Kd.R_own h'
  refine ⟨Kd.R_mono (Kd.R_below (Kd.R_bound h) hb) (fun k hk e => ?_), Kd.R_lower (Kd.R_mono (Kd.R_bound h') (fun k hk e => ?_)) hs⟩
  · have := own_ge o' k e.symm
    omega
  · have := own_lt o k e.symm
    omega

namespace Q
def types_Words.f (t : List Q.S124) (i : Int) : Option (List Int × List Int × Int) := if lenB t = true then some (if (entryR t i).2 = 0 then (if (entryR t i).1.f2 = true then ((entryR t i).1.f3, (entryR t i).1.f4, 0) else ([], [], 70)) else ([], [], (entryR t i).2)) else none
set_option maxHeartbeats 4000000 in
set_option maxRecDepth 100000 in
theorem types_Words.calls (A0 : Option Addr) (c0 : Nat) (l0 : List Q.S124) (a1 : Int) (r1 r2 : List Int) (r3 : Int) (w : World) (hr0 : Kd.C Q.k124 w A0 l0.length l0) (hc0 : l0.length ≤ c0) (h : types_Words.f l0 a1 = some (r1, r2, r3)) :
    Calls Try.prog 84 #[.slice A0 l0.length c0, .int .i64 a1] w fun e w' => ∃ v0_ v1_ : Value, e = .returned (.tuple #[v0_, v1_, .int .i64 r3]) ∧ Kd.R (Kd.int .i64) 3 w' w.heap.size (fun k_ => some k_ ≠ (v1_ : Value).ownBlock) v0_ r1 ∧ Kd.R (Kd.int .i64) 3 w' w.heap.size (fun k_ => some k_ ≠ (v0_ : Value).ownBlock) v1_ r2 ∧ Below w.heap.size w w' := by
  unfold types_Words.f at h
  split at h
  · rename_i hb
    have HB := Lib.hid (lenB_of hb)
    have HR := Lib.hid hr0
    have H := Lib.hid (Option.some.inj h)
    clear hb hc0 hr0 h
    go_enter Try.func84, Try.ntmps84
    go_wp2_with fail
    refine (entry_ok l0 A0 c0 a1 _ HR.out HB.out).mono ?_
    rintro e w2 ⟨⟨v, rfl, A3, c3, A4, c4, A5, c5, rfl, h3, h4, h5⟩, hb2⟩
    have HB2 := Lib.hid hb2
    have hgood := entry_good (t := l0) (i := a1) (x := (entryR l0 a1).1)
    have hgood' : (entryR l0 a1).2 = 0 → LieOk (entryR l0 a1).1 := fun h0 => (hgood (by rw [← h0])).1
    clear hgood
    generalize entryR l0 a1 = r at *
    obtain ⟨x, er⟩ := r
    dsimp only at H h3 h4 h5 hgood' ⊢
    have HH := H.out
    by_cases he : er = 0
    · subst he
      rw [if_pos rfl] at HH
      have hg := hgood' rfl
      have hk3 := hg.kinds
      have hk4 := hg.len
      obtain ⟨f0, f1, f2, f3, f4, f5⟩ := x
      dsimp only at *
      cases f2 with
      | true =>
        rw [if_pos rfl] at HH
        have HH' := Lib.hid HH
        have H3 := Lib.hid h3
        have H4 := Lib.hid h4
        have K4 := Lib.hid hk4
        clear h3 h4 h5 hb2 HH H hgood' hg hk4
        go_wp2_with fail
        have HW := Lib.hid (Below.refl (w2.alloc (.cells #[.int .i64 f0, .int .i64 f1, .bool true, .slice A3 f3.length c3, .slice A4 f4.length c4, .slice A5 f5.length c5] 130)).heap.size (w2.alloc (.cells #[.int .i64 f0, .int .i64 f1, .bool true, .slice A3 f3.length c3, .slice A4 f4.length c4, .slice A5 f5.length c5] 130)))
        have c3' : (w2.alloc (.cells #[.int .i64 f0, .int .i64 f1, .bool true, .slice A3 f3.length c3, .slice A4 f4.length c4, .slice A5 f5.length c5] 130)).cell? ⟨w2.heap.size, 3, none⟩ = some (.slice A3 f3.length c3) := by simp
        have c4' : (w2.alloc (.cells #[.int .i64 f0, .int .i64 f1, .bool true, .slice A3 f3.length c3, .slice A4 f4.length c4, .slice A5 f5.length c5] 130)).cell? ⟨w2.heap.size, 4, none⟩ = some (.slice A4 f4.length c4) := by simp
        have hz : w2.heap.size < (w2.alloc (.cells #[.int .i64 f0, .int .i64 f1, .bool true, .slice A3 f3.length c3, .slice A4 f4.length c4, .slice A5 f5.length c5] 130)).heap.size := by simp
        have hB3 := Lib.hid (Kd.C_below H3.out ((Below.refl _ _).alloc (Nat.le_refl _) (.cells #[.int .i64 f0, .int .i64 f1, .bool true, .slice A3 f3.length c3, .slice A4 f4.length c4, .slice A5 f5.length c5] 130)))
        have hB4 := Lib.hid (Kd.C_below H4.out ((Below.refl _ _).alloc (Nat.le_refl _) (.cells #[.int .i64 f0, .int .i64 f1, .bool true, .slice A3 f3.length c3, .slice A4 f4.length c4, .slice A5 f5.length c5] 130)))
        have HB3 := Lib.hid (HB2.out.alloc HB2.out.size (.cells #[.int .i64 f0, .int .i64 f1, .bool true, .slice A3 f3.length c3, .slice A4 f4.length c4, .slice A5 f5.length c5] 130))
        clear HW
        generalize w2.alloc (.cells #[.int .i64 f0, .int .i64 f1, .bool true, .slice A3 f3.length c3, .slice A4 f4.length c4, .slice A5 f5.length c5] 130) = w3 at *

        go_region_held3 (fun w' => w'.cell? ⟨w2.heap.size, 3, none⟩ = some (.slice A3 f3.length c3) ∧ w'.cell? ⟨w2.heap.size, 4, none⟩ = some (.slice A4 f4.length c4))
          (first
            | go_keep
            | exact ⟨pw_cell_below hcb.out c3', pw_cell_below hcb.out c4'⟩
            | exact ⟨pw_cell_below hcb'.out (pw_cell_below hcb.out c3'), pw_cell_below hcb'.out (pw_cell_below hcb.out c4')⟩)
          (first
            | (go_simp; go_at_call 122; refine (cloneI_ok A3 c3 f3 _ (ints_drew hB3.out) (by omega)).mono ?_; rintro e w5 ⟨⟨A', c', rfl, hcr⟩, hcb0⟩; have hcb := Lib.hid hcb0; clear hcb0; dsimp only)
            | (go_simp; go_at_call 122; refine (cloneI_ok A4 c4 f4 _ (Kd.C_below (ints_drew hB4.out) hcb.out) (by have := K4.out; omega)).mono ?_; rintro e w6 ⟨⟨A'', c'', rfl, hcr'⟩, hcb0⟩; have hcb' := Lib.hid hcb0; clear hcb0; dsimp only))
        have hzz : w.heap.size ≤ w3.drew.heap.size := HB3.out.size
        obtain ⟨R1, R2⟩ := two_rows hcr hcr' hcb'.out hcb.out.size
        have RR1 := Lib.hid (Kd.R_lower R1 hzz)
        have RR2 := Lib.hid (Kd.R_lower R2 hzz)
        have BB := Lib.hid ((show Below w.heap.size w w3.drew from HB3.out.drew).trans ((hcb.out.trans (hcb'.out.mono hcb.out.size)).mono hzz))
        clear hcr hcr' hcb hcb' R1 R2
        go_wp2
        go_ret3
        have := HH'.out
        simp only [Prod.mk.injEq] at this
        obtain ⟨rfl, rfl, rfl⟩ := this
        exact ⟨_, _, rfl, RR1.out, RR2.out, BB.out⟩
      | false =>
        rw [if_neg (by simp)] at HH
        have HH' := Lib.hid HH
        clear h3 h4 h5 hb2 HH H hgood' hg hk4
        go_wp2
        go_ret3
        have := HH'.out
        simp only [Prod.mk.injEq] at this
        obtain ⟨rfl, rfl, rfl⟩ := this
        exact ⟨_, _, rfl, Kd.R_nil _ _ _ _ _, Kd.R_nil _ _ _ _ _, HB2.out.alloc HB2.out.size _⟩
    · rw [if_neg he] at HH
      have HH' := Lib.hid HH
      clear h3 h4 h5 hb2 HH H hgood'
      go_wp2
      go_ret3
      have := HH'.out
      simp only [Prod.mk.injEq] at this
      obtain ⟨rfl, rfl, rfl⟩ := this
      exact ⟨_, _, rfl, Kd.R_nil _ _ _ _ _, Kd.R_nil _ _ _ _ _, HB2.out.alloc HB2.out.size _⟩
  · cases h

end Q
end Go.Proofs.Ytekoogedhmhpgaa
