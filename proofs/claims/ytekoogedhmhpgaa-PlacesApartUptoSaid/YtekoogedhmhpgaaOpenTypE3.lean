/- From a row's reading of an argument to kinds: whatever reads as data of a type stands in memory as the kind says, and its numbers and lengths are bounded. The laws of types: how their arguments open. -/
import Derived.Test.YtekoogedhmhpgaaWWords
import Derived.Deep.Slices
import Derived.SizedLaws
import Derived.DataReads
import Derived.Test.YtekoogedhmhpgaaQx0E3
import Derived.OpenShut
namespace Go.Proofs.Ytekoogedhmhpgaa
open Go.RowKit Go.Proofs.YtekoogedhmhpgaaW.PrintWords Go.Deep

/-- What reads as data of type t stands as the kind d says, and meets wf. -/
structure Opens {α : Type} (P : Program) (t : TypeId) (d : Kd α) (wf : α → Prop) : Prop where
  open_ : ∀ {H : Type} (enc : TypeId × Value → H) (W : World) (base : Nat) (spare : Nat → Bool) (held : Bool) (fuel : Nat) (cs : List Value) (y : DataW H × List MemPlace),
    DataW.trod enc P W base spare held fuel t cs = some y → (∀ n ∈ DataW.weights P t y.1, n ≤ 140737488351232) → ∃ x, d.K W x cs ∧ wf x

theorem Opens.imp {α : Type} {P : Program} {t : TypeId} {d : Kd α} {wf wf' : α → Prop} (h : Opens P t d wf) (hi : ∀ x, wf x → wf' x) : Opens P t d wf' := by
  refine ⟨?_⟩
  intro H enc W base spare held fuel cs y ht hw
  obtain ⟨x, hx, hx'⟩ := h.open_ enc W base spare held fuel cs y ht hw
  exact ⟨x, hx, hi x hx'⟩

theorem opens_int {P : Program} {t : TypeId} {k : IntKind} (ht : P.underlying t = some (.int k)) : Opens P t (Kd.int k) (fun x => (Lit.int k x).wf = true) := by
  refine ⟨?_⟩
  intro H enc W base spare held fuel cs y h _
  obtain ⟨n, rfl, _, hw⟩ := DataW.trod_int ht h
  exact ⟨n, rfl, hw⟩
theorem mem_weightsAll {H : Type} {P : Program} {e : TypeId} : ∀ {l : List (DataW H)} {d : DataW H}, d ∈ l → ∀ n ∈ d.weights P e, n ∈ DataW.weightsAll P e l
  | a :: l, d, hd, n, hn => by
    simp only [DataW.weightsAll, List.mem_append]
    rcases List.mem_cons.1 hd with rfl | hd
    · exact Or.inl hn
    · exact Or.inr (mem_weightsAll hd n hn)

theorem opens_slice {α : Type} [Inhabited α] {P : Program} {t e B : Nat} {d : Kd α} {wf : α → Prop} (ht : P.underlying t = some (.slice e)) (hc : P.cellsOf e = d.sz) (hB : P.bytesOf e = B) (he : Opens P e d wf) :
    Opens P t (Kd.slice e d) (fun xs => (∀ x ∈ xs, wf x) ∧ xs.length * B ≤ 140737488351232) := by
  refine ⟨?_⟩
  intro H enc W base spare held fuel cs y h hw
  rcases open_slice ht h with ⟨rfl, rfl⟩ | ⟨a, len, cap, m, n, D, Pl, rfl, hb, hl, hm, hmm, rfl, hel⟩
  · exact ⟨[], ⟨none, 0, rfl, Nat.le_refl _, rfl, by simp, fun hp => absurd hp (by simp)⟩, by simp, by simp⟩
  · have hlm : len ≤ m := by rw [hmm]; split <;> omega
    have hwl : len * B ≤ 140737488351232 := by
      have h1 := hw _ (by simp only [DataW.weights, ht]; exact List.mem_cons_self)
      simp only [List.length_map, List.length_range, hB] at h1
      exact Nat.le_trans (Nat.mul_le_mul_right B (by omega)) h1
    have key : ∀ i, i < len → ∃ x : α, wf x ∧ ∃ c, c.length = d.sz ∧ d.K W x c ∧ ∀ j u, c[j]? = some u → W.cell? (a.add (i * d.sz + j)) = some u := by
      intro i hi
      obtain ⟨cs', h1, h2⟩ := hel i (by omega)
      obtain ⟨x, hx, hx'⟩ := he.open_ enc W base spare held n cs' _ h2 (fun q hq => hw q (by
        simp only [DataW.weights, ht]
        refine List.mem_cons_of_mem _ (List.mem_append.2 (Or.inl ?_))
        exact mem_weightsAll (List.mem_map.2 ⟨i, List.mem_range.2 hi, rfl⟩) q hq))
      refine ⟨x, hx', cs', ?_, hx, ?_⟩
      · obtain ⟨_, h3, _⟩ := World.cells?_some h1
        rw [h3, hc]
      · intro j u hu
        obtain ⟨_, h3, h4⟩ := World.cells?_some h1
        have hj : j < cs'.length := (List.getElem?_eq_some_iff.1 hu).1
        rw [← hc, ← Deep.add_add, h4 j (by omega), hu]
    obtain ⟨F, hF⟩ := choose_lt key
    refine ⟨(List.range len).map F, ⟨some a, cap, by simp, by simpa using hl, ⟨by simp, ?_, fun _ => ⟨a, rfl, ?_⟩⟩⟩, ?_, by simpa using hwl⟩
    · have : maxLen = 9223372036854775807 := rfl
      simp
      omega
    · intro j p hj
      have hjl : j < len := by have := (List.getElem?_eq_some_iff.1 hj).1; simpa using this
      have hp : p = F j := by simp [hjl] at hj; exact hj.symm
      subst hp
      exact (hF j hjl).2
    · intro x hx
      obtain ⟨i, hi, rfl⟩ := List.mem_map.1 hx
      exact (hF i (List.mem_range.1 hi)).1

/-- Fields, one behind the other from cell off on. -/
structure OpensFs {α : Type} (P : Program) (fs : List Field) (off : Nat) (d : Kd α) (wf : α → Prop) : Prop where
  open_ : ∀ {H : Type} (enc : TypeId × Value → H) (W : World) (base : Nat) (spare : Nat → Bool) (held : Bool) (n : Nat) (cs : List Value) (xs : List (DataW H × List MemPlace)),
    xs.length = fs.length → cs.length = d.sz → (∀ (i : Nat) (f : Field), fs[i]? = some f → DataW.trod enc P W base spare held n f.type ((cs.drop (f.offset - off)).take (P.cellsOf f.type)) = xs[i]?) →
    (∀ q ∈ DataW.weightsEach P (fs.map (·.type)) (xs.map (·.1)), q ≤ 140737488351232) → ∃ x, d.K W x cs ∧ wf x

theorem opensFs_one {α : Type} {P : Program} {f : Field} {off : Nat} {d : Kd α} {wf : α → Prop} (ho : f.offset = off) (hc : P.cellsOf f.type = d.sz) (h : Opens P f.type d wf) : OpensFs P [f] off d wf := by
  refine ⟨?_⟩
  intro H enc W base spare held n cs xs hl hcs hr hw
  match xs, hl with
  | [x], _ =>
    have h1 := hr 0 f rfl
    rw [ho, Nat.sub_self, List.drop_zero, List.take_of_length_le (by omega)] at h1
    exact h.open_ enc W base spare held n cs x h1 (fun q hq => hw q (by simpa [DataW.weightsEach] using hq))

theorem opensFs_cons {α β : Type} {P : Program} {f : Field} {fs : List Field} {off : Nat} {a : Kd α} {b : Kd β} {wa : α → Prop} {wb : β → Prop} (ho : f.offset = off) (hc : P.cellsOf f.type = a.sz) (hoff : ∀ g ∈ fs, off + a.sz ≤ g.offset)
    (h : Opens P f.type a wa) (hs : OpensFs P fs (off + a.sz) b wb) : OpensFs P (f :: fs) off (Kd.pair a b) (fun x => wa x.1 ∧ wb x.2) := by
  refine ⟨?_⟩
  intro H enc W base spare held n cs xs hl hcs hr hw
  match xs, hl with
  | x :: xs, hl =>
    have hsz : cs.length = a.sz + b.sz := hcs
    have h1 := hr 0 f rfl
    rw [ho, Nat.sub_self, List.drop_zero, hc] at h1
    simp only [List.map_cons, DataW.weightsEach, List.mem_append] at hw
    obtain ⟨u, hu, hu'⟩ := h.open_ enc W base spare held n (cs.take a.sz) x h1 (fun q hq => hw q (Or.inl hq))
    obtain ⟨v, hv, hv'⟩ := hs.open_ enc W base spare held n (cs.drop a.sz) xs (by simpa using hl) (by simp [hsz]) (by
      intro i g hg
      have h2 := hr (i + 1) g hg
      rw [List.getElem?_cons_succ] at h2
      rw [← h2, List.drop_drop]
      have := hoff g (List.mem_of_getElem? hg)
      rw [show a.sz + (g.offset - (off + a.sz)) = g.offset - off from by omega]) (fun q hq => hw q (Or.inr hq))
    exact ⟨(u, v), ⟨cs.take a.sz, cs.drop a.sz, (List.take_append_drop _ _).symm, hu, hv⟩, hu', hv'⟩

theorem opens_struct {α β : Type} {P : Program} {t : TypeId} {fs : Array Field} {l : List Field} {d : Kd α} {wf : α → Prop} (ht : P.underlying t = some (.struct fs)) (hl : fs.toList = l) (hc : P.cellsOf t = d.sz) (h : OpensFs P l 0 d wf) (f : β → α) (g : α → β) (hg : ∀ x, f (g x) = x) :
    Opens P t (Kd.iso d f) (fun y => wf (f y)) := by
  refine ⟨?_⟩
  intro H enc W base spare held fuel cs y hy hw
  obtain ⟨xs, n, rfl, rfl, hcs, hxs, hr⟩ := DataW.trod_struct ht hy
  subst hl
  obtain ⟨x, hx, hx'⟩ := h.open_ enc W base spare held n cs xs (by simpa using hxs) (hcs.trans hc) (by
    intro i f hf
    rw [Nat.sub_zero]
    exact hr i f (by simpa using hf)) (by simpa [DataW.weights, ht] using hw)
  exact ⟨g x, (by show d.K W (f (g x)) cs; rw [hg]; exact hx), (by show wf (f (g x)); rw [hg]; exact hx')⟩

end Go.Proofs.Ytekoogedhmhpgaa

namespace Go.Proofs.Ytekoogedhmhpgaa
open Go.RowKit Go.Proofs.YtekoogedhmhpgaaW.PrintWords

theorem wfi64 {x : Int} (h : (Lit.int .i64 x).wf = true) : -9223372036854775808 ≤ x ∧ x ≤ 9223372036854775807 := by
  simp [Lit.wf, IntKind.min, IntKind.max, IntKind.signed, IntKind.bits] at h; omega
def I64 (x : Int) : Prop := -9223372036854775808 ≤ x ∧ x ≤ 9223372036854775807
theorem opens_i : Opens Try.prog 3 (Kd.int .i64) I64 := (opens_int Try.underlying3).imp fun _ => wfi64
theorem opens_ints : Opens Try.prog 55 (Kd.slice 3 (Kd.int .i64)) (fun xs => (∀ x ∈ xs, I64 x) ∧ xs.length * 8 ≤ 140737488351232) :=
  opens_slice Try.underlying55 (by kernel_rfl) (B := 8) (by kernel_rfl) opens_i
def TypeWf (x : Q.S124) : Prop := I64 x.f0 ∧ I64 x.f1 ∧ I64 x.f2 ∧ (∀ y ∈ x.f3, I64 y) ∧ x.f3.length * 8 ≤ 140737488351232
instance : Inhabited Q.S124 := ⟨Q.z124⟩
theorem opens_type : Opens Try.prog 124 Q.k124 TypeWf := by
  have h := opens_struct (P := Try.prog) (t := 124) Try.underlying124 rfl (d := Kd.pair (Kd.int .i64) (Kd.pair (Kd.int .i64) (Kd.pair (Kd.int .i64) (Kd.slice 3 (Kd.int .i64)))))
    (by kernel_rfl)
    (opensFs_cons rfl (by kernel_rfl) (by decide) opens_i
      (opensFs_cons rfl (by kernel_rfl) (by decide) opens_i
        (opensFs_cons rfl (by kernel_rfl) (by decide) opens_i
          (opensFs_one rfl (by kernel_rfl) opens_ints))))
    (fun x : Q.S124 => (x.f0, x.f1, x.f2, x.f3)) (fun p => ⟨p.1, p.2.1, p.2.2.1, p.2.2.2⟩) (fun _ => rfl)
  exact h
theorem opens_types : Opens Try.prog 54 (Kd.slice 124 Q.k124) (fun xs => (∀ x ∈ xs, TypeWf x) ∧ xs.length * 48 ≤ 140737488351232) :=
  opens_slice Try.underlying54 (by kernel_rfl) (B := 48) (by kernel_rfl) opens_type
instance : Inhabited Q.S57 := ⟨Q.z57⟩
end Go.Proofs.Ytekoogedhmhpgaa

