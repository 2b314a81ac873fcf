/-
  NARROWER THAN 'FOR EVERY INPUT', by the rows' own cells (each row's printed sentence says how): RawEncodes: loops · RawBack: loops.
  DERIVED. THE GIVEN ROWS OF THIS SEAT. 8 by the template 'for every input the law returns true; each argument reads behind the call as it read before'; 0 by the template 'total and deterministic' (their statements: YtekoogedhmhpgaaTotals.lean).
  GIVEN WITH THE SEED: the statements are not yours to turn. If you find one false, say at which input.
  Laid BY PROGRAM, IN A SANDBOX (cutbox-rows.mjs): the forced cells as the released guide's own fill.sh prints them over the translation 5b35ecb4e7cb1171… (all of the seat's roots in one cut). By AI agents, Wed Nov 11 2026. No macro, syntax, notation, axiom, sorry.
-/
import Derived.Test.YtekoogedhmhpgaaChecked
import GoSem.Claim
import GoSem.ClaimJoined
import GoSem.ClaimMapViews
import Derived.JoinedTies
import Derived.KernelRfl
namespace Go.Proofs.Ytekoogedhmhpgaa
/- THE CELL 'sum', in the pinned program and in every row, IS THE sha256 OF THE DUMP (.gsa) THAT YtekoogedhmhpgaaProg.lean LOADS. Nothing in Lean hashes anything: it is a label: what it is worth is what the hold of that sum in a sandbox is worth. -/
noncomputable def Try.pinned : Pinned := { name := "ytekoogedhmhpgaa", sum := "5b35ecb4e7cb1171ba28661b2b4f196ddce00fb08c485dcdb43aefc90e56fbba", checked := Try.checked }
namespace Rows
def none {H : Type} : Left H := { results := [], args := [] }

/-- 'gantrylaw2.MemApart': WHATEVER THE INPUT: true; the input reads as it did. -/
def memApartSpec : ChangeSpec := { name := "memApart", fn := fun _ => fun
  | [d] => { results := [.lit (.bool true)], args := [d] }
  | _ => none }
def memApartRow : OpenClaim := { program := "ytekoogedhmhpgaa", sum := "5b35ecb4e7cb1171ba28661b2b4f196ddce00fb08c485dcdb43aefc90e56fbba", func := "gantry/gantrylaw2.MemApart", spec := "memApart", apart := false }
def MemApartSaid : Prop := memApartRow.holds Try.pinned (OpenSpec.ofChange memApartSpec)

/-- ITS FALSE NEIGHBOUR: 'it returns false'. Refute it at one input. -/
def memApartWrong : ChangeSpec := { name := "memApart", fn := fun _ => fun
  | [d] => { results := [.lit (.bool false)], args := [d] }
  | _ => none }
def MemApartWrongFalsely : Prop := memApartRow.holds Try.pinned (OpenSpec.ofChange memApartWrong)

/-- 'gantrylaw2.MemExact': WHATEVER THE INPUT: true; the input reads as it did. -/
def memExactSpec : ChangeSpec := { name := "memExact", fn := fun _ => fun
  | [d] => { results := [.lit (.bool true)], args := [d] }
  | _ => none }
def memExactRow : OpenClaim := { program := "ytekoogedhmhpgaa", sum := "5b35ecb4e7cb1171ba28661b2b4f196ddce00fb08c485dcdb43aefc90e56fbba", func := "gantry/gantrylaw2.MemExact", spec := "memExact", apart := false }
def MemExactSaid : Prop := memExactRow.holds Try.pinned (OpenSpec.ofChange memExactSpec)

/-- ITS FALSE NEIGHBOUR: 'it returns false'. Refute it at one input. -/
def memExactWrong : ChangeSpec := { name := "memExact", fn := fun _ => fun
  | [d] => { results := [.lit (.bool false)], args := [d] }
  | _ => none }
def MemExactWrongFalsely : Prop := memExactRow.holds Try.pinned (OpenSpec.ofChange memExactWrong)

/-- 'gantrylaw7.TypesLie': WHATEVER THE INPUT: true; the input reads as it did. -/
def typesLieSpec : ChangeSpec := { name := "typesLie", fn := fun _ => fun
  | [d] => { results := [.lit (.bool true)], args := [d] }
  | _ => none }
def typesLieRow : OpenClaim := { program := "ytekoogedhmhpgaa", sum := "5b35ecb4e7cb1171ba28661b2b4f196ddce00fb08c485dcdb43aefc90e56fbba", func := "gantry/gantrylaw7.TypesLie", spec := "typesLie", unfollowed := true, recurses := true, apart := false }
def TypesLieSaid : Prop := typesLieRow.holds Try.pinned (OpenSpec.ofChange typesLieSpec)

/-- ITS FALSE NEIGHBOUR: 'it returns false'. Refute it at one input. -/
def typesLieWrong : ChangeSpec := { name := "typesLie", fn := fun _ => fun
  | [d] => { results := [.lit (.bool false)], args := [d] }
  | _ => none }
def TypesLieWrongFalsely : Prop := typesLieRow.holds Try.pinned (OpenSpec.ofChange typesLieWrong)

/-- 'gantrylaw7.TypesExact': WHATEVER THE INPUT: true; the input reads as it did. -/
def typesExactSpec : ChangeSpec := { name := "typesExact", fn := fun _ => fun
  | [d] => { results := [.lit (.bool true)], args := [d] }
  | _ => none }
def typesExactRow : OpenClaim := { program := "ytekoogedhmhpgaa", sum := "5b35ecb4e7cb1171ba28661b2b4f196ddce00fb08c485dcdb43aefc90e56fbba", func := "gantry/gantrylaw7.TypesExact", spec := "typesExact", unfollowed := true, recurses := true, apart := false }
def TypesExactSaid : Prop := typesExactRow.holds Try.pinned (OpenSpec.ofChange typesExactSpec)

/-- ITS FALSE NEIGHBOUR: 'it returns false'. Refute it at one input. -/
def typesExactWrong : ChangeSpec := { name := "typesExact", fn := fun _ => fun
  | [d] => { results := [.lit (.bool false)], args := [d] }
  | _ => none }
def TypesExactWrongFalsely : Prop := typesExactRow.holds Try.pinned (OpenSpec.ofChange typesExactWrong)

/-- 'gantrylaw11.PlacesExact': WHATEVER THE INPUT: true; the input reads as it did. -/
def placesExactSpec : ChangeSpec := { name := "placesExact", fn := fun _ => fun
  | [d] => { results := [.lit (.bool true)], args := [d] }
  | _ => none }
def placesExactRow : OpenClaim := { program := "ytekoogedhmhpgaa", sum := "5b35ecb4e7cb1171ba28661b2b4f196ddce00fb08c485dcdb43aefc90e56fbba", func := "gantry/gantrylaw11.PlacesExact", spec := "placesExact", unfollowed := true, recurses := true, apart := false }
def PlacesExactSaid : Prop := placesExactRow.holds Try.pinned (OpenSpec.ofChange placesExactSpec)

/-- ITS FALSE NEIGHBOUR: 'it returns false'. Refute it at one input. -/
def placesExactWrong : ChangeSpec := { name := "placesExact", fn := fun _ => fun
  | [d] => { results := [.lit (.bool false)], args := [d] }
  | _ => none }
def PlacesExactWrongFalsely : Prop := placesExactRow.holds Try.pinned (OpenSpec.ofChange placesExactWrong)

/-- 'gantrylaw11.PlacesApart': WHATEVER THE INPUT: true; the input reads as it did. -/
def placesApartSpec : ChangeSpec := { name := "placesApart", fn := fun _ => fun
  | [d] => { results := [.lit (.bool true)], args := [d] }
  | _ => none }
def placesApartRow : OpenClaim := { program := "ytekoogedhmhpgaa", sum := "5b35ecb4e7cb1171ba28661b2b4f196ddce00fb08c485dcdb43aefc90e56fbba", func := "gantry/gantrylaw11.PlacesApart", spec := "placesApart", unfollowed := true, recurses := true, apart := false }
def PlacesApartSaid : Prop := placesApartRow.holds Try.pinned (OpenSpec.ofChange placesApartSpec)

/-- ITS FALSE NEIGHBOUR: 'it returns false'. Refute it at one input. -/
def placesApartWrong : ChangeSpec := { name := "placesApart", fn := fun _ => fun
  | [d] => { results := [.lit (.bool false)], args := [d] }
  | _ => none }
def PlacesApartWrongFalsely : Prop := placesApartRow.holds Try.pinned (OpenSpec.ofChange placesApartWrong)

/-- 'gantrylaw8.RawEncodes': WHATEVER THE INPUT: true; the input reads as it did. -/
def rawEncodesSpec : ChangeSpec := { name := "rawEncodes", fn := fun _ => fun
  | [d] => { results := [.lit (.bool true)], args := [d] }
  | _ => none }
def rawEncodesRow : OpenClaim := { program := "ytekoogedhmhpgaa", sum := "5b35ecb4e7cb1171ba28661b2b4f196ddce00fb08c485dcdb43aefc90e56fbba", func := "gantry/gantrylaw8.RawEncodes", spec := "rawEncodes", unfollowed := true, recurses := true, loops := true, apart := false }
def RawEncodesSaid : Prop := rawEncodesRow.holds Try.pinned (OpenSpec.ofChange rawEncodesSpec)

/-- ITS FALSE NEIGHBOUR: 'it returns false'. Refute it at one input. -/
def rawEncodesWrong : ChangeSpec := { name := "rawEncodes", fn := fun _ => fun
  | [d] => { results := [.lit (.bool false)], args := [d] }
  | _ => none }
def RawEncodesWrongFalsely : Prop := rawEncodesRow.holds Try.pinned (OpenSpec.ofChange rawEncodesWrong)

/-- 'gantrylaw8.RawBack': WHATEVER THE INPUT: true; the input reads as it did. -/
def rawBackSpec : ChangeSpec := { name := "rawBack", fn := fun _ => fun
  | [d] => { results := [.lit (.bool true)], args := [d] }
  | _ => none }
def rawBackRow : OpenClaim := { program := "ytekoogedhmhpgaa", sum := "5b35ecb4e7cb1171ba28661b2b4f196ddce00fb08c485dcdb43aefc90e56fbba", func := "gantry/gantrylaw8.RawBack", spec := "rawBack", unfollowed := true, recurses := true, loops := true, apart := false }
def RawBackSaid : Prop := rawBackRow.holds Try.pinned (OpenSpec.ofChange rawBackSpec)

/-- ITS FALSE NEIGHBOUR: 'it returns false'. Refute it at one input. -/
def rawBackWrong : ChangeSpec := { name := "rawBack", fn := fun _ => fun
  | [d] => { results := [.lit (.bool false)], args := [d] }
  | _ => none }
def RawBackWrongFalsely : Prop := rawBackRow.holds Try.pinned (OpenSpec.ofChange rawBackWrong)

/- THE SECOND FORM. 'bulk': how many values and letters a reading holds, each counted each time it is reached (what is shared counts as often as it is met; a slice's spare places count too). A statement '..UptoSaid' is the law's where the arguments, and the package variables that the reading takes, are together of bulk at most 1048576: NARROWER than '..Said'. Prove '..Said' where nothing that the law and all that it calls make is longer than what came in: it says more and counts as full. Else prove '..UptoSaid'. A law counts once. -/
mutual
def uptoBulk {H : Type} : DataW H → Nat
  | .lit (.string bytes) => bytes.length + 1
  | .lit _ => 1
  | .nil => 1
  | .ptr d => uptoBulk d + 1
  | .slice elems spare => uptoBulkAll elems + uptoBulkAll spare + 1
  | .agg parts => uptoBulkAll parts + 1
  | .iface _ d => uptoBulk d + 1
  | .map entries => uptoBulkEntries entries + 1
  | .held _ => 1
def uptoBulkAll {H : Type} : List (DataW H) → Nat
  | [] => 0
  | d :: r => uptoBulk d + uptoBulkAll r
def uptoBulkEntries {H : Type} : List (Lit × DataW H) → Nat
  | [] => 0
  | x :: r => uptoBulkEntry x + uptoBulkEntries r
def uptoBulkEntry {H : Type} : Lit × DataW H → Nat
  | (.string bytes, d) => bytes.length + uptoBulk d + 1
  | (_, d) => uptoBulk d + 1
 end
def uptoSmall : (H : Type) → List (DataW H) → Bool := fun _ ds => decide (uptoBulkAll ds ≤ 1048576)
def OpenSpec.upto (s : _root_.Go.ChangeSpec) : _root_.Go.OpenSpec := { _root_.Go.OpenSpec.ofChange s with cond := some uptoSmall }

/-- 'gantrylaw2.MemApart', WHERE WHAT IT READS IS OF BULK AT MOST 1048576: true; the input reads as it did. -/
def memApartUptoRow : OpenClaim := { program := "ytekoogedhmhpgaa", sum := "5b35ecb4e7cb1171ba28661b2b4f196ddce00fb08c485dcdb43aefc90e56fbba", func := "gantry/gantrylaw2.MemApart", spec := "memApart", apart := false, narrowed := true }
def MemApartUptoSaid : Prop := memApartUptoRow.holds Try.pinned (OpenSpec.upto memApartSpec)

/-- 'gantrylaw2.MemExact', WHERE WHAT IT READS IS OF BULK AT MOST 1048576: true; the input reads as it did. -/
def memExactUptoRow : OpenClaim := { program := "ytekoogedhmhpgaa", sum := "5b35ecb4e7cb1171ba28661b2b4f196ddce00fb08c485dcdb43aefc90e56fbba", func := "gantry/gantrylaw2.MemExact", spec := "memExact", apart := false, narrowed := true }
def MemExactUptoSaid : Prop := memExactUptoRow.holds Try.pinned (OpenSpec.upto memExactSpec)

/-- 'gantrylaw7.TypesLie', WHERE WHAT IT READS IS OF BULK AT MOST 1048576: true; the input reads as it did. -/
def typesLieUptoRow : OpenClaim := { program := "ytekoogedhmhpgaa", sum := "5b35ecb4e7cb1171ba28661b2b4f196ddce00fb08c485dcdb43aefc90e56fbba", func := "gantry/gantrylaw7.TypesLie", spec := "typesLie", unfollowed := true, recurses := true, apart := false, narrowed := true }
def TypesLieUptoSaid : Prop := typesLieUptoRow.holds Try.pinned (OpenSpec.upto typesLieSpec)

/-- 'gantrylaw7.TypesExact', WHERE WHAT IT READS IS OF BULK AT MOST 1048576: true; the input reads as it did. -/
def typesExactUptoRow : OpenClaim := { program := "ytekoogedhmhpgaa", sum := "5b35ecb4e7cb1171ba28661b2b4f196ddce00fb08c485dcdb43aefc90e56fbba", func := "gantry/gantrylaw7.TypesExact", spec := "typesExact", unfollowed := true, recurses := true, apart := false, narrowed := true }
def TypesExactUptoSaid : Prop := typesExactUptoRow.holds Try.pinned (OpenSpec.upto typesExactSpec)

/-- 'gantrylaw11.PlacesExact', WHERE WHAT IT READS IS OF BULK AT MOST 1048576: true; the input reads as it did. -/
def placesExactUptoRow : OpenClaim := { program := "ytekoogedhmhpgaa", sum := "5b35ecb4e7cb1171ba28661b2b4f196ddce00fb08c485dcdb43aefc90e56fbba", func := "gantry/gantrylaw11.PlacesExact", spec := "placesExact", unfollowed := true, recurses := true, apart := false, narrowed := true }
def PlacesExactUptoSaid : Prop := placesExactUptoRow.holds Try.pinned (OpenSpec.upto placesExactSpec)

/-- 'gantrylaw11.PlacesApart', WHERE WHAT IT READS IS OF BULK AT MOST 1048576: true; the input reads as it did. -/
def placesApartUptoRow : OpenClaim := { program := "ytekoogedhmhpgaa", sum := "5b35ecb4e7cb1171ba28661b2b4f196ddce00fb08c485dcdb43aefc90e56fbba", func := "gantry/gantrylaw11.PlacesApart", spec := "placesApart", unfollowed := true, recurses := true, apart := false, narrowed := true }
def PlacesApartUptoSaid : Prop := placesApartUptoRow.holds Try.pinned (OpenSpec.upto placesApartSpec)

/-- 'gantrylaw8.RawEncodes', WHERE WHAT IT READS IS OF BULK AT MOST 1048576: true; the input reads as it did. -/
def rawEncodesUptoRow : OpenClaim := { program := "ytekoogedhmhpgaa", sum := "5b35ecb4e7cb1171ba28661b2b4f196ddce00fb08c485dcdb43aefc90e56fbba", func := "gantry/gantrylaw8.RawEncodes", spec := "rawEncodes", unfollowed := true, recurses := true, loops := true, apart := false, narrowed := true }
def RawEncodesUptoSaid : Prop := rawEncodesUptoRow.holds Try.pinned (OpenSpec.upto rawEncodesSpec)

/-- 'gantrylaw8.RawBack', WHERE WHAT IT READS IS OF BULK AT MOST 1048576: true; the input reads as it did. -/
def rawBackUptoRow : OpenClaim := { program := "ytekoogedhmhpgaa", sum := "5b35ecb4e7cb1171ba28661b2b4f196ddce00fb08c485dcdb43aefc90e56fbba", func := "gantry/gantrylaw8.RawBack", spec := "rawBack", unfollowed := true, recurses := true, loops := true, apart := false, narrowed := true }
def RawBackUptoSaid : Prop := rawBackUptoRow.holds Try.pinned (OpenSpec.upto rawBackSpec)

end Rows
end Go.Proofs.Ytekoogedhmhpgaa
