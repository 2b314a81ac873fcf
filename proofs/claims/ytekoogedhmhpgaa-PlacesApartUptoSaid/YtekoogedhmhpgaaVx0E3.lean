-- PRINTED by print.py (a twelfth state) out of the translation. Not trusted: Lean checks it.
import Derived.Test.YtekoogedhmhpgaaQx0E3
import Derived.Test.YtekoogedhmhpgaaProg
import Derived.Below
import Derived.Deep.Draws
import Derived.Deep.AppendLies
import Derived.Maps.AppendAt
import Derived.OwnWalk
import Derived.Laws.BytesArg
import Derived.Laws.MakeOwn
import Derived.Laws.OwnMore
import Derived.Deep.OwnRows
import Derived.Tactics
import Derived.Lib.ConvBytes
import Derived.Laws.Slices
import Derived.WalkKit
import Derived.KernelRfl
import Derived.RowKit3
import Derived.Deep.LoopGhost
import Derived.Deep.QuietTactic
import Derived.BigQuiet
import Derived.WideLaws
import Derived.Deep.DeepCutAuto
import Derived.Deep.CutBlock
import Derived.Deep.RegionHeld3
import Derived.Laws.Rows
import Derived.Lib.AppendStr
import Derived.ArgAppend
import Derived.Laws.IdiomCopy
import Derived.OrdersHeld
import Derived.Laws.BitsLemmas
import Derived.RowKit
import Derived.Test.YtekoogedhmhpgaaWWords
import Derived.Test.YtekoogedhmhpgaaWLast
import Derived.Test.YtekoogedhmhpgaaWTab
import Derived.Test.YtekoogedhmhpgaaWQPut
import Derived.Test.YtekoogedhmhpgaaWApart
import Derived.Test.YtekoogedhmhpgaaWArr
import Derived.Test.YtekoogedhmhpgaaWZeros
import Derived.Test.YtekoogedhmhpgaaWFoot
import Derived.Test.YtekoogedhmhpgaaWKept
import Derived.Test.YtekoogedhmhpgaaWShare
import Derived.Test.YtekoogedhmhpgaaWN
import Derived.Test.YtekoogedhmhpgaaWFootNe
import Derived.Test.YtekoogedhmhpgaaWEqStruct
import Derived.Test.YtekoogedhmhpgaaWRepsOne
import Derived.Test.YtekoogedhmhpgaaWInv
import Derived.Test.YtekoogedhmhpgaaWInvWords
import Derived.Test.YtekoogedhmhpgaaWGuard
import Derived.Test.YtekoogedhmhpgaaWNEv
import Derived.Test.YtekoogedhmhpgaaWMore
namespace Go.Proofs.Ytekoogedhmhpgaa.Q
open Go.RowKit Go.Proofs.YtekoogedhmhpgaaW.PrintWords Go.Proofs.YtekoogedhmhpgaaW.PrintLast Go.Proofs.YtekoogedhmhpgaaW.PrintMore
attribute [local go_sem] max2_int min2_int max_two min_two max_three min_three max_four min_four   -- for this text's walks alone
set_option linter.unusedVariables false
set_option linter.unusedSimpArgs false

-- the values' own types
structure S70 where
 f0 : (List S124)
 f1 : (List Int)
 f2 : (List Int)
def z70 : S70 := ⟨([] : List S124), ([] : List Int), ([] : List Int)⟩
def k70 : Kd S70 := Kd.iso (Kd.pair (Kd.slice 124 k124) (Kd.pair (Kd.slice 3 (Kd.int .i64)) (Kd.slice 3 (Kd.int .i64)))) (fun x : S70 => (x.f0, x.f1, x.f2))
theorem k70_open {w : World} {x : S70} {cs : List Value} (h : k70.K w x cs) : ∃ A0 c0 A1 c1 A2 c2, cs = [.slice A0 x.f0.length c0, .slice A1 x.f1.length c1, .slice A2 x.f2.length c2] ∧ x.f0.length ≤ c0 ∧ k124.C w A0 x.f0.length x.f0 ∧ x.f1.length ≤ c1 ∧ (Kd.int .i64).C w A1 x.f1.length x.f1 ∧ x.f2.length ≤ c2 ∧ (Kd.int .i64).C w A2 x.f2.length x.f2 := by
 obtain ⟨_, _, rfl, ⟨A0, c0, rfl, l0, g0⟩, ⟨_, _, rfl, ⟨A1, c1, rfl, l1, g1⟩, ⟨A2, c2, rfl, l2, g2⟩⟩⟩ := h
 exact ⟨A0, c0, A1, c1, A2, c2, rfl, l0, g0, l1, g1, l2, g2⟩
def rd_T70 (xs : List S70) (i : Int) : S70 := xs.getD i.toNat z70
theorem at_T70 {w : World} {A : Option Addr} {n : Nat} {xs : List S70} (h : Kd.C k70 w A n xs) (i : Int) (h0 : 0 ≤ i) (h1 : i < n) : ∃ ad A0 c0 A1 c1 A2 c2, A = some ad ∧ w.cell? (ad.add (i.toNat * 3)) = some (.slice A0 (rd_T70 xs i).f0.length c0) ∧ w.cell? ⟨(ad.add (i.toNat * 3)).block, (ad.add (i.toNat * 3)).off + 1, none⟩ = some (.slice A1 (rd_T70 xs i).f1.length c1) ∧ w.cell? ⟨(ad.add (i.toNat * 3)).block, (ad.add (i.toNat * 3)).off + 2, none⟩ = some (.slice A2 (rd_T70 xs i).f2.length c2) ∧ (rd_T70 xs i).f0.length ≤ c0 ∧ k124.C w A0 (rd_T70 xs i).f0.length (rd_T70 xs i).f0 ∧ (rd_T70 xs i).f1.length ≤ c1 ∧ (Kd.int .i64).C w A1 (rd_T70 xs i).f1.length (rd_T70 xs i).f1 ∧ (rd_T70 xs i).f2.length ≤ c2 ∧ (Kd.int .i64).C w A2 (rd_T70 xs i).f2.length (rd_T70 xs i).f2 := by
 obtain ⟨ad, c, e, _, hK, hc0⟩ := Kd.C_get h z70 i h0 h1
 have hc : ∀ j u, c[j]? = some u → w.cell? (ad.add (i.toNat * 3 + j)) = some u := hc0
 obtain ⟨A0, c0, A1, c1, A2, c2, rfl, l0, g0, l1, g1, l2, g2⟩ := k70_open hK
 exact ⟨ad, A0, c0, A1, c1, A2, c2, e, hc 0 _ rfl, by rw [← add_field _ _ 1 (by omega)]; exact hc 1 _ rfl, by rw [← add_field _ _ 2 (by omega)]; exact hc 2 _ rfl, l0, g0, l1, g1, l2, g2⟩

end Go.Proofs.Ytekoogedhmhpgaa.Q

