/- Words on worlds: all is as it was but for blocks that are named, and new ones. No program in it. -/
import Derived.Test.YtekoogedhmhpgaaPlain
import Derived.Deep.OwnRows
import Derived.WalkSmall
import Derived.Deep.QuietTactic
namespace Go.Proofs.Ytekoogedhmhpgaa
open Go.RowKit

/-- w' is w but for the blocks that S names and for new ones; the streams are as they were. -/
structure Keep (S : Nat → Prop) (w w' : World) : Prop where
  os : w'.os = w.os
  tape : w'.tape = w.tape
  output : w'.output = w.output
  size : w.heap.size ≤ w'.heap.size
  block : ∀ i, i < w.heap.size → ¬ S i → w'.heap[i]? = w.heap[i]?

namespace Keep
variable {S T : Nat → Prop} {w w' w'' : World}
theorem refl (S : Nat → Prop) (w : World) : Keep S w w := ⟨rfl, rfl, rfl, Nat.le_refl _, fun _ _ _ => rfl⟩
theorem trans (h : Keep S w w') (k : Keep S w' w'') : Keep S w w'' :=
  ⟨k.os.trans h.os, k.tape.trans h.tape, k.output.trans h.output, Nat.le_trans h.size k.size, fun i hi hs => (k.block i (Nat.lt_of_lt_of_le hi h.size) hs).trans (h.block i hi hs)⟩
theorem mono (h : Keep S w w') (hs : ∀ i, S i → T i) : Keep T w w' := ⟨h.os, h.tape, h.output, h.size, fun i hi ht => h.block i hi (fun s => ht (hs i s))⟩
/-- Two steps, of which the second may write what is new to the first, too. -/
theorem trans' (h : Keep S w w') (k : Keep T w' w'') (hs : ∀ i, i < w.heap.size → T i → S i) : Keep S w w'' :=
  ⟨k.os.trans h.os, k.tape.trans h.tape, k.output.trans h.output, Nat.le_trans h.size k.size, fun i hi hS => (k.block i (Nat.lt_of_lt_of_le hi h.size) (fun t => hS (hs i hi t))).trans (h.block i hi hS)⟩
theorem drew (h : Keep S w w') : Keep S w w'.drew := ⟨h.os, h.tape, h.output, h.size, h.block⟩
theorem drewN (h : Keep S w w') (n : Nat) : Keep S w (w'.drewN n) := ⟨h.os, h.tape, h.output, h.size, h.block⟩
theorem alloc (h : Keep S w w') (o : Obj) : Keep S w (w'.alloc o) :=
  h.trans ⟨rfl, rfl, rfl, by simp, fun k hk _ => Below.heap_alloc _ _ _ hk⟩
theorem setCell (h : Keep S w w') {a : Addr} (ha : a.block < w.heap.size → S a.block) (v : Value) : Keep S w (w'.setCell a v) :=
  h.trans' (T := fun i => i = a.block) ⟨rfl, rfl, rfl, by simp [World.setCell], fun k _ hk => Below.heap_setCell _ _ _ _ hk⟩ (fun i hi e => by subst e; exact ha hi)
theorem grown {row : Option Nat} (h : Keep S w w') (hg : w'.grownBy w'' row) (hr : ∀ k, row = some k → k < w.heap.size → S k) : Keep S w w'' :=
  h.trans' (T := fun i => row = some i) ⟨hg.os, hg.tape, hg.output, hg.size, fun k hk hn => hg.block k hk (fun e => hn e.symm)⟩ (fun i hi e => hr i e hi)
theorem cell (h : Keep S w w') {a : Addr} (ha : a.block < w.heap.size) (hs : ¬ S a.block) : w'.cell? a = w.cell? a := World.cell?_of_block (w := w) (h.block _ ha hs)
theorem frozen (h : Keep S w w') {a : Addr} (ha : a.block < w.heap.size) (hs : ¬ S a.block) : w'.frozen? a = w.frozen? a := World.frozen?_of_block (w := w) (h.block _ ha hs)
theorem cell_some (h : Keep S w w') {a : Addr} {v : Value} (hc : w.cell? a = some v) (hs : ¬ S a.block) : w'.cell? a = some v := (h.cell (World.block_lt_of_cell? w a hc) hs).trans hc
theorem row (h : Keep S w w') {b : Nat} {t : TypeId} {n : Nat} {f : Nat → Value} (hr : w.rowIs b t n f) (hs : ¬ S b) : w'.rowIs b t n f := hr.of_block (h.block b hr.lt hs)
theorem below (h : Keep (fun _ => False) w w') : Below w.heap.size w w' := ⟨h.os, h.tape, h.output, h.size, fun k hk => h.block k hk (fun f => f)⟩
theorem of_below (h : Below w.heap.size w w') : Keep S w w' := ⟨h.os, h.tape, h.output, h.size, fun k hk _ => h.block k hk⟩
/-- Seen from an elder world, what is written in new blocks counts for nothing. -/
theorem fresh {B : Nat} (h : Below B w w') (hB : B ≤ w'.heap.size) (k : Keep S w' w'') (hs : ∀ i, S i → B ≤ i) : Below B w w'' :=
  ⟨k.os.trans h.os, k.tape.trans h.tape, k.output.trans h.output, Nat.le_trans h.size k.size, fun i hi => (k.block i (by omega) (fun s => by have := hs i s; omega)).trans (h.block i hi)⟩
end Keep

/-- A contract that leaves the world alone, within a region that only reads. -/
theorem quiet_eq {P : Program} {f : FuncId} {args : Array Value} {w : World} {n : Nat} {v : Value} (h : Calls P f args (w.drewN n) fun e w' => e = .returned v ∧ w.drewN n = w') :
    Calls P f args (w.drewN n) fun e w'' => e = .returned v ∧ ∃ m, w'' = w.drewN m :=
  h.mono fun _ _ ⟨he, hw⟩ => ⟨he, n, hw.symm⟩

end Go.Proofs.Ytekoogedhmhpgaa
