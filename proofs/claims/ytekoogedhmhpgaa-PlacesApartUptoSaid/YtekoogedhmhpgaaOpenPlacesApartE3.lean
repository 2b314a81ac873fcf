/- The law PlacesApart over what its argument reads as. -/
import Derived.Test.YtekoogedhmhpgaaPlacesApartE3
import Derived.Test.YtekoogedhmhpgaaOpenPlacesE3
namespace Go.Proofs.Ytekoogedhmhpgaa
open Go.RowKit Go.Proofs.YtekoogedhmhpgaaW.PrintWords
theorem placesApart_row (A : Option Addr) (cap : Nat) (l : List Q.S70) (w : World) (hl : Kd.C Q.k70 w A l.length l) (_hc : l.length ≤ cap) (hwf : (∀ x ∈ l, AskWf x) ∧ l.length * 72 ≤ 140737488351232) :
    Calls Try.prog 8 #[.slice A l.length cap] w fun e w' => e = .returned (.bool true) ∧ Below w.heap.size w w' :=
  placesApart_ok A cap l w hl (by omega) (fun x hx => askOk_of (hwf.1 x hx))
end Go.Proofs.Ytekoogedhmhpgaa

