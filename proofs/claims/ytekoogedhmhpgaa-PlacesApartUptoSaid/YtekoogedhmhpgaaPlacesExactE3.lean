/- The walk of the law PlacesExact. -/
import Derived.Test.YtekoogedhmhpgaaPlacesPE3
import Derived.Test.YtekoogedhmhpgaaVx0E3
import Derived.Deep.RegionHeld3
import Derived.Deep.DeepCutAuto
import Derived.Deep.LoopGhost
namespace Go.Proofs.Ytekoogedhmhpgaa
open Go.RowKit Go.Proofs.YtekoogedhmhpgaaW.PrintWords
set_option linter.unusedVariables false

/-- What is asked can be. -/
def AskOk (x : Q.S70) : Prop := okT x.f0 ∧ x.f1.length ≤ 17592186043904 ∧ x.f2.length ≤ 17592186043904
theorem copyN_f (l : List Int) (h : l.length ≤ 17592186043904) : Q.gantryref0_CopyNumbers.f l = some l := by
  unfold Q.gantryref0_CopyNumbers.f
  rw [if_pos (by simp; omega)]
  rfl
/-- Two rows of places, apart. -/
structure TwoR (w : World) (base : Nat) (va vb : Value) (a b : List Place) : Prop where
  a : Kd.R Q.k85 85 w base (fun k_ => some k_ ≠ vb.ownBlock) va a
  b : Kd.R Q.k85 85 w base (fun k_ => some k_ ≠ va.ownBlock) vb b
/-- An assignment in a new block. -/
structure AsgAt (w0 w : World) (g : Nat) (va vb : Value) (a b : List Place) (s : Int) : Prop where
  blk : w.heap[g]? = some (.cells #[va, vb, .int .i64 s] 73 (0, 0))
  ge : w0.heap.size ≤ g
  two : TwoR w w0.heap.size va vb a b
  below : Below w0.heap.size w0 w
theorem TwoR.below {w w' : World} {base : Nat} {va vb : Value} {a b : List Place} (h : TwoR w base va vb a b) (hb : Below w.heap.size w w') : TwoR w' base va vb a b := ⟨Kd.R_below h.a hb, Kd.R_below h.b hb⟩
theorem place_E : ∀ q, q ∈ 85 :: Q.k85.E → q ≠ 73 := by
  intro q hq
  simp [Q.k85, Kd.iso, Kd.pair, Kd.int, Kd.bool, Kd.scalar] at hq
  subst hq
  decide
theorem TwoR.set {w : World} {base g : Nat} {va vb : Value} {a b : List Place} {cs : Array Value} (h : TwoR w base va vb a b) (hg : w.heap[g]? = some (.cells cs 73 (0, 0))) (j : Nat) (u : Value) : TwoR (w.setCell ⟨g, j, none⟩ u) base va vb a b :=
  ⟨Kd.R_set h.a hg place_E j u, Kd.R_set h.b hg place_E j u⟩
theorem asg_alloc {w0 w : World} {va vb : Value} {a b : List Place} (h : TwoR w w0.heap.size va vb a b) (hb : Below w0.heap.size w0 w) (s : Int) : AsgAt w0 (w.alloc (.cells #[va, vb, .int .i64 s] 73)) w.heap.size va vb a b s :=
  ⟨Deep.blk_alloc_new _ _, hb.size, h.below ((Below.refl _ _).alloc (Nat.le_refl _) _), hb.alloc hb.size _⟩
theorem asg_set {w0 w : World} {g : Nat} {u0 u1 u2 va vb : Value} {a b : List Place} (h : TwoR w w0.heap.size va vb a b) (hb : Below w0.heap.size w0 w) (hg : w.heap[g]? = some (.cells #[u0, u1, u2] 73 (0, 0))) (ge : w0.heap.size ≤ g) (s : Int) :
    AsgAt w0 (((w.setCell ⟨g, 0, none⟩ va).setCell ⟨g, 1, none⟩ vb).setCell ⟨g, 2, none⟩ (.int .i64 s)) g va vb a b s :=
  ⟨by have := cells_put (cells_put (cells_put hg 0 va) 1 vb) 2 (.int .i64 s); simpa using this, ge, ((h.set hg 0 va).set (cells_put hg 0 va) 1 vb).set (cells_put (cells_put hg 0 va) 1 vb) 2 _, ((hb.setCell (p := ⟨g, 0, none⟩) ge va).setCell (p := ⟨g, 1, none⟩) ge vb).setCell (p := ⟨g, 2, none⟩) ge _⟩
def Done (w : World) (e : Ending) (w' : World) : Prop := e = .returned (.bool true) ∧ Below w.heap.size w w'

end Go.Proofs.Ytekoogedhmhpgaa

