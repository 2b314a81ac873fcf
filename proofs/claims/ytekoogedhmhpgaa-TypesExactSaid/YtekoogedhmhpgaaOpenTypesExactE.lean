/- The law TypesExact over what its argument reads as. -/
import Derived.Test.YtekoogedhmhpgaaTypesExactE
import Derived.Test.YtekoogedhmhpgaaOpenTypesLieE
namespace Go.Proofs.Ytekoogedhmhpgaa
open Go.RowKit Go.Proofs.YtekoogedhmhpgaaW.PrintWords
theorem typesExact_row (A : Option Addr) (cap : Nat) (l : List Q.S57) (w : World) (hl : Kd.C Q.k57 w A l.length l) (hc : l.length ≤ cap) (hwf : (∀ x ∈ l, TableWf x) ∧ l.length * 72 ≤ 140737488351232) :
    Calls Try.prog 6 #[.slice A l.length cap] w fun e w' => e = .returned (.bool true) ∧ Below w.heap.size w w' := by
  obtain ⟨k, hk⟩ := typesExact_pure l (by omega) (fun x hx => ⟨okT_of (hwf.1 x hx), by have := (hwf.1 x hx).2.1.2; omega, by have := (hwf.1 x hx).2.2.2; omega⟩)
  exact Q.gantrylaw7_TypesExact.calls k A cap l true w hl hc hk
end Go.Proofs.Ytekoogedhmhpgaa

