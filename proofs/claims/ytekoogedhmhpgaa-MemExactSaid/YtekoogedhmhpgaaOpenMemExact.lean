/- The law MemExact over what its argument reads as. -/
import Derived.Test.YtekoogedhmhpgaaMemExact
import Derived.Test.YtekoogedhmhpgaaOpenMem
namespace Go.Proofs.Ytekoogedhmhpgaa
open Go.RowKit Go.Proofs.YtekoogedhmhpgaaW.PrintWords

theorem opens_script : Opens Try.prog 41 k41 (fun s => (-9223372036854775808 ≤ s.f0 ∧ s.f0 ≤ 9223372036854775807) ∧ (∀ x ∈ s.f1, OpWf x)) := by
  have h := opens_struct (P := Try.prog) (t := 41) Try.underlying41 rfl (d := Kd.pair (Kd.int .i64) (Kd.slice 32 k32))
    (by kernel_rfl)
    (opensFs_cons rfl (by kernel_rfl) (by decide) ((opens_int Try.underlying3).imp fun _ => wf_i64) (opensFs_one rfl (by kernel_rfl) (opens_ops.imp fun _ h => h.1)))
    (fun x : S41 => (x.f0, x.f1)) (fun p => ⟨p.1, p.2⟩) (fun _ => rfl)
  exact h

theorem memExact_row (cs : Array Value) (s : S41) (w : World) (hs : k41.K w s (Value.agg cs).cells.toList) (hwf : (-9223372036854775808 ≤ s.f0 ∧ s.f0 ≤ 9223372036854775807) ∧ (∀ x ∈ s.f1, OpWf x)) :
    Calls Try.prog 4 #[.agg cs] w fun e w' => e = .returned (.bool true) ∧ Below w.heap.size w w' := by
  obtain ⟨A, c, hcs, hlc, hC⟩ := k41_open hs
  have hcs' : cs = #[.int .i64 s.f0, .slice A s.f1.length c] := by
    apply Array.ext'
    simpa [Value.cells] using hcs
  subst hcs'
  by_cases h : 8192 ≤ s.f0 ∧ s.f0 ≤ 1048576
  · obtain ⟨n, hn⟩ : ∃ n : Nat, s.f0 = n := ⟨s.f0.toNat, by omega⟩
    rw [hn]
    exact memExact_ok n A c s.f1 w (by omega) (by omega) hC hwf.2
  · exact memExact_no s.f0 _ w hwf.1.1 hwf.1.2 (by omega)

end Go.Proofs.Ytekoogedhmhpgaa
