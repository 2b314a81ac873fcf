/- The functions that were proved by hand, for the print: the package types. -/
import Derived.Test.YtekoogedhmhpgaaTypB
namespace Go.Proofs.Ytekoogedhmhpgaa.Q
end Go.Proofs.Ytekoogedhmhpgaa.Q
