/- The contracts of types.one and of the closure that it is handed. -/
import Derived.Test.YtekoogedhmhpgaaTyp2
import Derived.Test.YtekoogedhmhpgaaKtyp
namespace Go.Proofs.Ytekoogedhmhpgaa
open Go.RowKit Go.Proofs.YtekoogedhmhpgaaW.PrintWords

/-- A lie is within bounds. -/
structure LieOk (x : S130) : Prop where
  size : 0 ≤ x.f0 ∧ x.f0 ≤ 65536
  align : x.f1 = 1 ∨ x.f1 = 2 ∨ x.f1 = 4 ∨ x.f1 = 8
  len : x.f3.length = x.f4.length
  kinds : x.f3.length ≤ 16
  at_ : ∀ a ∈ x.f4, 0 ≤ a ∧ a ≤ 65536

set_option maxHeartbeats 400000 in
set_option maxRecDepth 100000 in
theorem found_ok (lb cap : Nat) (A : Option Addr) (ls : List S130) (i : Int) (w w0 : World) (hw : Below w0.heap.size w0 w) (hb : w.cell? ⟨lb, 0, none⟩ = some (.slice A ls.length cap)) (hl : Kd.C k130 w0 A ls.length ls) (h0 : 0 ≤ i) (h1 : i < ls.length) :
    Calls Try.prog 120 #[.int .i64 i, .pointer (some ⟨lb, 0, none⟩)] w fun e w' => (∃ A3 c3 A4 c4 A5 c5, e = .returned (.agg #[.int .i64 (rd_T130 ls i).f0, .int .i64 (rd_T130 ls i).f1, .bool (rd_T130 ls i).f2, .slice A3 (rd_T130 ls i).f3.length c3, .slice A4 (rd_T130 ls i).f4.length c4, .slice A5 (rd_T130 ls i).f5.length c5]) ∧
      IntsAt w0 A3 (rd_T130 ls i).f3 ∧ IntsAt w0 A4 (rd_T130 ls i).f4) ∧ Below w.heap.size w w' := by
  obtain ⟨n, rfl⟩ : ∃ n : Nat, i = n := ⟨i.toNat, by omega⟩
  obtain ⟨ad, A3, c3, A4, c4, A5, c5, rfl, q0, q1, q2, q3, q4, q5, l3, h3, l4, h4, l5, h5⟩ := at_T130 hl n h0 h1
  rw [Int.toNat_natCast] at q0 q1 q2 q3 q4 q5
  have H3 := Lib.hid h3
  have H4 := Lib.hid h4
  clear h3 h4 h5 hl
  replace q0 := pw_cell_below hw q0
  replace q1 := pw_cell_below hw q1
  replace q2 := pw_cell_below hw q2
  replace q3 := pw_cell_below hw q3
  replace q4 := pw_cell_below hw q4
  replace q5 := pw_cell_below hw q5
  clear hw
  generalize rd_T130 ls n = x at *
  replace q0 := fun o => cell_old (o := o) q0
  replace q1 := fun o => cell_old (o := o) q1
  replace q2 := fun o => cell_old (o := o) q2
  replace q3 := fun o => cell_old (o := o) q3
  replace q4 := fun o => cell_old (o := o) q4
  replace q5 := fun o => cell_old (o := o) q5
  replace hb := fun o => cell_old (o := o) hb
  go_enter Try.func120, Try.ntmps120
  go_wp2
  exact bodyPost_ret (v := .agg #[.int .i64 x.f0, .int .i64 x.f1, .bool x.f2, .slice A3 x.f3.length c3, .slice A4 x.f4.length c4, .slice A5 x.f5.length c5]) (by simp [results, Try.results120, go_sem]) rfl ⟨⟨A3, c3, A4, c4, A5, c5, rfl, H3.out, H4.out⟩, (Below.refl _ _).alloc (Nat.le_refl _) _⟩

end Go.Proofs.Ytekoogedhmhpgaa
