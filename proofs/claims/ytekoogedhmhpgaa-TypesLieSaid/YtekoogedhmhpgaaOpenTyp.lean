/- The laws of types: how their arguments open. -/
import Derived.Test.YtekoogedhmhpgaaQx0
import Derived.Test.YtekoogedhmhpgaaOpen
import Derived.OpenShut
namespace Go.Proofs.Ytekoogedhmhpgaa
open Go.RowKit Go.Proofs.YtekoogedhmhpgaaW.PrintWords

theorem wfi64 {x : Int} (h : (Lit.int .i64 x).wf = true) : -9223372036854775808 ≤ x ∧ x ≤ 9223372036854775807 := by
  simp [Lit.wf, IntKind.min, IntKind.max, IntKind.signed, IntKind.bits] at h; omega
def I64 (x : Int) : Prop := -9223372036854775808 ≤ x ∧ x ≤ 9223372036854775807
theorem opens_i : Opens Try.prog 3 (Kd.int .i64) I64 := (opens_int Try.underlying3).imp fun _ => wfi64
theorem opens_ints : Opens Try.prog 55 (Kd.slice 3 (Kd.int .i64)) (fun xs => (∀ x ∈ xs, I64 x) ∧ xs.length * 8 ≤ 140737488351232) :=
  opens_slice Try.underlying55 (by kernel_rfl) (B := 8) (by kernel_rfl) opens_i
def TypeWf (x : Q.S124) : Prop := I64 x.f0 ∧ I64 x.f1 ∧ I64 x.f2 ∧ (∀ y ∈ x.f3, I64 y) ∧ x.f3.length * 8 ≤ 140737488351232
instance : Inhabited Q.S124 := ⟨Q.z124⟩
theorem opens_type : Opens Try.prog 124 Q.k124 TypeWf := by
  have h := opens_struct (P := Try.prog) (t := 124) Try.underlying124 rfl (d := Kd.pair (Kd.int .i64) (Kd.pair (Kd.int .i64) (Kd.pair (Kd.int .i64) (Kd.slice 3 (Kd.int .i64)))))
    (by kernel_rfl)
    (opensFs_cons rfl (by kernel_rfl) (by decide) opens_i
      (opensFs_cons rfl (by kernel_rfl) (by decide) opens_i
        (opensFs_cons rfl (by kernel_rfl) (by decide) opens_i
          (opensFs_one rfl (by kernel_rfl) opens_ints))))
    (fun x : Q.S124 => (x.f0, x.f1, x.f2, x.f3)) (fun p => ⟨p.1, p.2.1, p.2.2.1, p.2.2.2⟩) (fun _ => rfl)
  exact h
theorem opens_types : Opens Try.prog 54 (Kd.slice 124 Q.k124) (fun xs => (∀ x ∈ xs, TypeWf x) ∧ xs.length * 48 ≤ 140737488351232) :=
  opens_slice Try.underlying54 (by kernel_rfl) (B := 48) (by kernel_rfl) opens_type
def TableWf (x : Q.S57) : Prop := ((∀ y ∈ x.f0, TypeWf y) ∧ x.f0.length * 48 ≤ 140737488351232) ∧ ((∀ y ∈ x.f1, I64 y) ∧ x.f1.length * 8 ≤ 140737488351232) ∧ ((∀ y ∈ x.f2, I64 y) ∧ x.f2.length * 8 ≤ 140737488351232)
instance : Inhabited Q.S57 := ⟨Q.z57⟩
theorem opens_table : Opens Try.prog 57 Q.k57 TableWf := by
  have h := opens_struct (P := Try.prog) (t := 57) Try.underlying57 rfl (d := Kd.pair (Kd.slice 124 Q.k124) (Kd.pair (Kd.slice 3 (Kd.int .i64)) (Kd.slice 3 (Kd.int .i64))))
    (by kernel_rfl)
    (opensFs_cons rfl (by kernel_rfl) (by decide) opens_types
      (opensFs_cons rfl (by kernel_rfl) (by decide) opens_ints
        (opensFs_one rfl (by kernel_rfl) opens_ints)))
    (fun x : Q.S57 => (x.f0, x.f1, x.f2)) (fun p => ⟨p.1, p.2.1, p.2.2⟩) (fun _ => rfl)
  exact h
theorem opens_tables : Opens Try.prog 53 (Kd.slice 57 Q.k57) (fun xs => (∀ x ∈ xs, TableWf x) ∧ xs.length * 72 ≤ 140737488351232) :=
  opens_slice Try.underlying53 (by kernel_rfl) (B := 72) (by kernel_rfl) opens_table
end Go.Proofs.Ytekoogedhmhpgaa
