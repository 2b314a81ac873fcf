/- The laws of places over what their argument reads as. -/
import Derived.Test.YtekoogedhmhpgaaPlacesExactE3
import Derived.Test.YtekoogedhmhpgaaOpenTypE3
namespace Go.Proofs.Ytekoogedhmhpgaa
open Go.RowKit Go.Proofs.YtekoogedhmhpgaaW.PrintWords
def AskWf (x : Q.S70) : Prop := ((∀ y ∈ x.f0, TypeWf y) ∧ x.f0.length * 48 ≤ 140737488351232) ∧ ((∀ y ∈ x.f1, I64 y) ∧ x.f1.length * 8 ≤ 140737488351232) ∧ ((∀ y ∈ x.f2, I64 y) ∧ x.f2.length * 8 ≤ 140737488351232)
instance : Inhabited Q.S70 := ⟨Q.z70⟩
theorem opens_ask : Opens Try.prog 70 Q.k70 AskWf := by
  have h := opens_struct (P := Try.prog) (t := 70) Try.underlying70 rfl (d := Kd.pair (Kd.slice 124 Q.k124) (Kd.pair (Kd.slice 3 (Kd.int .i64)) (Kd.slice 3 (Kd.int .i64))))
    (by kernel_rfl)
    (opensFs_cons rfl (by kernel_rfl) (by decide) opens_types
      (opensFs_cons rfl (by kernel_rfl) (by decide) opens_ints
        (opensFs_one rfl (by kernel_rfl) opens_ints)))
    (fun x : Q.S70 => (x.f0, x.f1, x.f2)) (fun p => ⟨p.1, p.2.1, p.2.2⟩) (fun _ => rfl)
  exact h
theorem opens_asks : Opens Try.prog 68 (Kd.slice 70 Q.k70) (fun xs => (∀ x ∈ xs, AskWf x) ∧ xs.length * 72 ≤ 140737488351232) :=
  opens_slice Try.underlying68 (by kernel_rfl) (B := 72) (by kernel_rfl) opens_ask
theorem askOk_of {x : Q.S70} (h : AskWf x) : AskOk x := ⟨⟨by have := h.1.2; omega, fun y hy => by have := (h.1.1 y hy).2.2.2.2; omega⟩, by have := h.2.1.2; omega, by have := h.2.2.2; omega⟩
end Go.Proofs.Ytekoogedhmhpgaa

