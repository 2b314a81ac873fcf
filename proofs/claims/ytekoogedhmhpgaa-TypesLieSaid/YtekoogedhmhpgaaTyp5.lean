/- What types.one keeps while it lays out a struct: the lie in its own block, its three rows apart. -/
import Derived.Test.YtekoogedhmhpgaaTyp4
import Derived.Maps.AppendAt
import Derived.Deep.RegionHeld3
import Derived.Deep.AppendLies
namespace Go.Proofs.Ytekoogedhmhpgaa
open Go.RowKit Go.Proofs.YtekoogedhmhpgaaW.PrintWords

/-- Two rows that are not one. -/
def Apart2 (v v' : Value) : Prop := v.ownBlock = none ∨ v.ownBlock ≠ v'.ownBlock
theorem Apart2.symm {v v' : Value} (h : Apart2 v v') : Apart2 v' v := by
  rcases h with h | h
  · cases hv : v'.ownBlock with
    | none => exact .inl hv
    | some b => exact .inr (by rw [hv, h]; simp)
  · exact .inr (Ne.symm h)

/-- Block yb holds the cells cs (of type T); three rows of the call's own, apart. -/
structure YR (w : World) (B yb : Nat) (cs : Array Value) (vk va vf : Value) (ks us fs : List Int) : Prop where
  blk : w.heap[yb]? = some (.cells cs 130 (0, 0))
  k : w.ownsRow B 3 1 vk ks.length (nums .i64 ks)
  a : w.ownsRow B 3 1 va us.length (nums .i64 us)
  f : w.ownsRow B 3 1 vf fs.length (nums .i64 fs)
  ka : Apart2 vk va
  kf : Apart2 vk vf
  af : Apart2 va vf

theorem apart_after {W : World} {B : Nat} {v v1 v' : Value} {e size n : Nat} {xs : List Value} (h : Apart2 v v') (hat : v1.ownBlock = v.ownBlock ∨ v1.ownBlock = some W.heap.size) (ho : W.ownsRow B e size v' n xs) : Apart2 v1 v' := by
  rcases hat with hat | hat
  · rcases h with h | h
    · exact .inl (hat.trans h)
    · exact .inr (by rw [hat]; exact h)
  · right
    rw [hat]
    intro he
    have := own_lt ho W.heap.size he.symm
    omega

namespace YR
variable {w w' : World} {B yb : Nat} {cs : Array Value} {vk va vf : Value} {ks us fs : List Int}
theorem cell (h : YR w B yb cs vk va vf ks us fs) (i : Nat) : w.cell? ⟨yb, i, none⟩ = cs[i]? := by simp [World.cell?, h.blk]
theorem fz (h : YR w B yb cs vk va vf ks us fs) (i : Nat) : w.frozen? ⟨yb, i, none⟩ = false := by simp [World.frozen?, h.blk]
theorem lt (h : YR w B yb cs vk va vf ks us fs) : yb < w.heap.size := (Array.getElem?_eq_some_iff.1 h.blk).1
theorem ne (h : YR w B yb cs vk va vf ks us fs) : some yb ≠ vk.ownBlock ∧ some yb ≠ va.ownBlock ∧ some yb ≠ vf.ownBlock :=
  ⟨own_ne h.k h.blk (by decide), own_ne h.a h.blk (by decide), own_ne h.f h.blk (by decide)⟩
/-- All that this stands on is as it was. -/
theorem move (h : YR w B yb cs vk va vf ks us fs) (hb : ∀ i, i < w.heap.size → w'.heap[i]? = w.heap[i]?) : YR w' B yb cs vk va vf ks us fs :=
  ⟨(hb _ h.lt).trans h.blk, own_move h.k (fun i hi => hb i (own_lt h.k i hi)), own_move h.a (fun i hi => hb i (own_lt h.a i hi)), own_move h.f (fun i hi => hb i (own_lt h.f i hi)), h.ka, h.kf, h.af⟩
theorem alloc (h : YR w B yb cs vk va vf ks us fs) (o : Obj) : YR (w.alloc o) B yb cs vk va vf ks us fs := h.move fun _ hi => Below.heap_alloc _ _ _ hi
theorem drew (h : YR w B yb cs vk va vf ks us fs) : YR w.drew B yb cs vk va vf ks us fs := h.move fun _ _ => rfl
theorem drewN (h : YR w B yb cs vk va vf ks us fs) (n : Nat) : YR (w.drewN n) B yb cs vk va vf ks us fs := h.move fun _ _ => rfl
theorem below (h : YR w B yb cs vk va vf ks us fs) (hb : Below w.heap.size w w') : YR w' B yb cs vk va vf ks us fs := h.move hb.block
theorem set (h : YR w B yb cs vk va vf ks us fs) (i : Nat) (v : Value) : YR (w.setCell ⟨yb, i, none⟩ v) B yb (cs.setIfInBounds i v) vk va vf ks us fs :=
  ⟨by simp [World.setCell, Array.getElem?_modify, h.blk], own_setCell h.k h.ne.1 v, own_setCell h.a h.ne.2.1 v, own_setCell h.f h.ne.2.2 v, h.ka, h.kf, h.af⟩
theorem appF (h : YR w B yb cs vk va vf ks us fs) {w1 : World} {v1 : Value} {s : Int} {n : Nat} {xs : List Value} (ho : w1.ownsRow B 3 1 v1 n xs) (hn : n = fs.length + 1) (hx : xs = nums .i64 fs ++ [.int .i64 s]) (hg : w.grownBy w1 vf.ownBlock) (hat : v1.ownBlock = vf.ownBlock ∨ v1.ownBlock = some w.heap.size) :
    YR w1 B yb cs vk va v1 ks us (fs ++ [s]) :=
  ⟨(hg.block yb h.lt h.ne.2.2).trans h.blk, h.k.kept hg h.kf, h.a.kept hg h.af, (by subst hn hx; simpa [nums] using ho), h.ka, (apart_after h.kf.symm hat h.k).symm, (apart_after h.af.symm hat h.a).symm⟩
theorem appK (h : YR w B yb cs vk va vf ks us fs) {w1 : World} {v1 : Value} {s : Int} {n : Nat} {xs : List Value} (ho : w1.ownsRow B 3 1 v1 n xs) (hn : n = ks.length + 1) (hx : xs = nums .i64 ks ++ [.int .i64 s]) (hg : w.grownBy w1 vk.ownBlock) (hat : v1.ownBlock = vk.ownBlock ∨ v1.ownBlock = some w.heap.size) :
    YR w1 B yb cs v1 va vf (ks ++ [s]) us fs :=
  ⟨(hg.block yb h.lt h.ne.1).trans h.blk, (by subst hn hx; simpa [nums] using ho), h.a.kept hg h.ka.symm, h.f.kept hg h.kf.symm, apart_after h.ka hat h.a, apart_after h.kf hat h.f, h.af⟩
theorem appA (h : YR w B yb cs vk va vf ks us fs) {w1 : World} {v1 : Value} {s : Int} {n : Nat} {xs : List Value} (ho : w1.ownsRow B 3 1 v1 n xs) (hn : n = us.length + 1) (hx : xs = nums .i64 us ++ [.int .i64 s]) (hg : w.grownBy w1 va.ownBlock) (hat : v1.ownBlock = va.ownBlock ∨ v1.ownBlock = some w.heap.size) :
    YR w1 B yb cs vk v1 vf ks (us ++ [s]) fs :=
  ⟨(hg.block yb h.lt h.ne.2.1).trans h.blk, h.k.kept hg h.ka, (by subst hn hx; simpa [nums] using ho), h.f.kept hg h.af.symm, (apart_after h.ka.symm hat h.k).symm, h.kf, apart_after h.af hat h.f⟩
end YR

/-- The lie y in block yb; its rows are the call's own, and apart. -/
def YAt (w : World) (B yb : Nat) (y : S130) (vk va vf : Value) : Prop :=
  YR w B yb #[.int .i64 y.f0, .int .i64 y.f1, .bool y.f2, vk, va, vf] vk va vf y.f3 y.f4 y.f5
theorem YAt.facts {w : World} {B yb : Nat} {y : S130} {vk va vf : Value} (h : YAt w B yb y vk va vf) :
    w.cell? ⟨yb, 0, none⟩ = some (.int .i64 y.f0) ∧ w.cell? ⟨yb, 1, none⟩ = some (.int .i64 y.f1) ∧ w.cell? ⟨yb, 2, none⟩ = some (.bool y.f2) ∧ w.cell? ⟨yb, 3, none⟩ = some vk ∧ w.cell? ⟨yb, 4, none⟩ = some va ∧ w.cell? ⟨yb, 5, none⟩ = some vf ∧
      w.frozen? ⟨yb, 0, none⟩ = false ∧ w.frozen? ⟨yb, 1, none⟩ = false ∧ w.frozen? ⟨yb, 2, none⟩ = false ∧ w.frozen? ⟨yb, 3, none⟩ = false ∧ w.frozen? ⟨yb, 4, none⟩ = false ∧ w.frozen? ⟨yb, 5, none⟩ = false :=
  ⟨h.cell 0, h.cell 1, h.cell 2, h.cell 3, h.cell 4, h.cell 5, h.fz 0, h.fz 1, h.fz 2, h.fz 3, h.fz 4, h.fz 5⟩
theorem YAt.val {w : World} {B yb : Nat} {y : S130} {vk va vf : Value} (h : YAt w B yb y vk va vf) : LieVal w B y (.agg #[.int .i64 y.f0, .int .i64 y.f1, .bool y.f2, vk, va, vf]) :=
  ⟨vk, va, vf, rfl, k130_mkM _ _ _ _ (Kd.R_of_own h.k (fun _ _ => trivial)) (Kd.R_of_own h.a (fun _ _ => trivial)) (Kd.R_of_own h.f (fun _ _ => trivial))⟩

/-! The plain side: a struct's fields, one behind the other. -/

def stepL (y x : S130) : S130 :=
  { f0 := upN y.f0 x.f1 + x.f0, f1 := max y.f1 x.f1, f2 := y.f2 && x.f2 && decide (y.f3.length + x.f3.length ≤ 16),
    f3 := if (y.f2 && x.f2 && decide (y.f3.length + x.f3.length ≤ 16)) = true then y.f3 ++ x.f3 else y.f3,
    f4 := if (y.f2 && x.f2 && decide (y.f3.length + x.f3.length ≤ 16)) = true then y.f4 ++ x.f4.map (upN y.f0 x.f1 + ·) else y.f4,
    f5 := y.f5 ++ [upN y.f0 x.f1] }
def foldL (ls : List S130) (F : List Int) : S130 := F.foldl (fun y f => stepL y (rd_T130 ls f)) ⟨0, 1, true, [], [], []⟩
def structL (ls : List S130) (F : List Int) : S130 := { foldL ls F with f0 := upN (foldL ls F).f0 (foldL ls F).f1 }
theorem foldL_snoc (ls : List S130) (F : List Int) (f : Int) : foldL ls (F ++ [f]) = stepL (foldL ls F) (rd_T130 ls f) := by simp [foldL]

/-- What holds of the lie while fields are laid, k of them. -/
structure YOk (k : Nat) (y : S130) : Prop where
  size : 0 ≤ y.f0 ∧ y.f0 ≤ k * 65544
  align : y.f1 = 1 ∨ y.f1 = 2 ∨ y.f1 = 4 ∨ y.f1 = 8
  len : y.f3.length = y.f4.length
  kinds : y.f3.length ≤ 16
  fields : y.f5.length = k
  at_ : ∀ a ∈ y.f4, 0 ≤ a ∧ a ≤ k * 65544 + 65536
theorem yOk_step {k : Nat} {y x : S130} (h : YOk k y) (hx : LieOk x) : YOk (k + 1) (stepL y x) := by
  have hu := upN_bd (n := y.f0) (a := x.f1) (by have := hx.align; omega)
  have h1 := h.size
  have h2 := hx.size
  have ha := hx.align
  refine ⟨by simp only [stepL]; omega, ?_, ?_, ?_, by simp [stepL, h.fields], ?_⟩
  · simp only [stepL]
    have := h.align
    omega
  · simp only [stepL]
    split
    · simp [h.len, hx.len]
    · exact h.len
  · simp only [stepL]
    split
    · rename_i hc
      simp at hc
      simp
      omega
    · exact h.kinds
  · intro a hm
    simp only [stepL] at hm
    split at hm
    · rcases List.mem_append.1 hm with hm | hm
      · have := h.at_ a hm; omega
      · obtain ⟨b, hb, rfl⟩ := List.mem_map.1 hm
        have := hx.at_ b hb
        omega
    · have := h.at_ a hm; omega

end Go.Proofs.Ytekoogedhmhpgaa
