/- The law TypesLie over what its argument reads as. -/
import Derived.Test.YtekoogedhmhpgaaTypesLieE
import Derived.Test.YtekoogedhmhpgaaOpenTypE
namespace Go.Proofs.Ytekoogedhmhpgaa
open Go.RowKit Go.Proofs.YtekoogedhmhpgaaW.PrintWords
theorem okT_of {x : Q.S57} (h : TableWf x) : okT x.f0 := ⟨by have := h.1.2; omega, fun y hy => by have := (h.1.1 y hy).2.2.2.2; omega⟩
end Go.Proofs.Ytekoogedhmhpgaa

