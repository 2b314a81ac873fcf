/- The laws of memory: how their arguments open. -/
import Derived.Test.YtekoogedhmhpgaaMemApart
import Derived.Test.YtekoogedhmhpgaaOpen
import Derived.OpenShut
namespace Go.Proofs.Ytekoogedhmhpgaa
open Go.RowKit Go.Proofs.YtekoogedhmhpgaaW.PrintWords

instance : Inhabited S32 := ⟨z32⟩
theorem wf_i64 {x : Int} (h : (Lit.int .i64 x).wf = true) : -9223372036854775808 ≤ x ∧ x ≤ 9223372036854775807 := by
  simp [Lit.wf, IntKind.min, IntKind.max, IntKind.signed, IntKind.bits] at h; omega
theorem wf_u64 {x : Int} (h : (Lit.int .u64 x).wf = true) : 0 ≤ x ∧ x < 18446744073709551616 := by
  simp [Lit.wf, IntKind.min, IntKind.max, IntKind.signed, IntKind.bits] at h; omega
theorem wf_u8 {x : Int} (h : (Lit.int .u8 x).wf = true) : 0 ≤ x ∧ x ≤ 255 := by
  simp [Lit.wf, IntKind.min, IntKind.max, IntKind.signed, IntKind.bits] at h; omega

theorem opens_bytes : Opens Try.prog 30 (Kd.slice 5 (Kd.int .u8)) (fun xs => (∀ x ∈ xs, 0 ≤ x ∧ x ≤ 255) ∧ xs.length ≤ 140737488351232) :=
  (opens_slice Try.underlying30 (by kernel_rfl) (B := 1) (by kernel_rfl) ((opens_int Try.underlying5).imp fun _ => wf_u8)).imp fun _ h => ⟨h.1, by simpa using h.2⟩

theorem opens_op : Opens Try.prog 32 k32 OpWf := by
  have h := opens_struct (P := Try.prog) (t := 32) Try.underlying32 rfl (d := Kd.pair (Kd.int .i64) (Kd.pair (Kd.int .i64) (Kd.pair (Kd.int .i64) (Kd.pair (Kd.int .u64) (Kd.pair (Kd.int .u64) (Kd.slice 5 (Kd.int .u8)))))))
    (by kernel_rfl)
    (opensFs_cons rfl (by kernel_rfl) (by decide) ((opens_int Try.underlying3).imp fun _ => wf_i64)
      (opensFs_cons rfl (by kernel_rfl) (by decide) ((opens_int Try.underlying3).imp fun _ => wf_i64)
        (opensFs_cons rfl (by kernel_rfl) (by decide) ((opens_int Try.underlying3).imp fun _ => wf_i64)
          (opensFs_cons rfl (by kernel_rfl) (by decide) ((opens_int Try.underlying29).imp fun _ => wf_u64)
            (opensFs_cons rfl (by kernel_rfl) (by decide) ((opens_int Try.underlying29).imp fun _ => wf_u64)
              (opensFs_one rfl (by kernel_rfl) opens_bytes))))))
    (fun x : S32 => (x.f0, x.f1, x.f2, x.f3, x.f4, x.f5)) (fun p => ⟨p.1, p.2.1, p.2.2.1, p.2.2.2.1, p.2.2.2.2.1, p.2.2.2.2.2⟩) (fun _ => rfl)
  exact h.imp fun x ⟨h0, h1, h2, h3, h4, h5, h6⟩ => ⟨h0, h1, h2, h3, h4, h5, h6⟩

theorem opens_ops : Opens Try.prog 22 (Kd.slice 32 k32) (fun xs => (∀ x ∈ xs, OpWf x) ∧ xs.length * 64 ≤ 140737488351232) :=
  opens_slice Try.underlying22 (by kernel_rfl) (B := 64) (by kernel_rfl) opens_op

theorem memApart_row (A : Option Addr) (cap : Nat) (l : List S32) (w : World) (hl : Kd.C k32 w A l.length l) (hwf : (∀ x ∈ l, OpWf x) ∧ l.length * 64 ≤ 140737488351232) :
    Calls Try.prog 3 #[.slice A l.length cap] w fun e w' => e = .returned (.bool true) ∧ Below w.heap.size w w' :=
  memApart_walk A cap l w hl hwf.1

end Go.Proofs.Ytekoogedhmhpgaa
