/- The law TypesLie over what its argument reads as. -/
import Derived.Test.YtekoogedhmhpgaaTypesLie
import Derived.Test.YtekoogedhmhpgaaOpenTyp
namespace Go.Proofs.Ytekoogedhmhpgaa
open Go.RowKit Go.Proofs.YtekoogedhmhpgaaW.PrintWords
theorem okT_of {x : Q.S57} (h : TableWf x) : okT x.f0 := ⟨by have := h.1.2; omega, fun y hy => by have := (h.1.1 y hy).2.2.2.2; omega⟩
theorem typesLie_row (A : Option Addr) (cap : Nat) (l : List Q.S57) (w : World) (hl : Kd.C Q.k57 w A l.length l) (hc : l.length ≤ cap) (hwf : (∀ x ∈ l, TableWf x) ∧ l.length * 72 ≤ 140737488351232) :
    Calls Try.prog 5 #[.slice A l.length cap] w fun e w' => e = .returned (.bool true) ∧ Below w.heap.size w w' := by
  obtain ⟨k, hk⟩ := typesLie_pure l (by omega) (fun x hx => okT_of (hwf.1 x hx))
  exact Q.gantrylaw7_TypesLie.calls k A cap l true w hl hc hk
end Go.Proofs.Ytekoogedhmhpgaa
