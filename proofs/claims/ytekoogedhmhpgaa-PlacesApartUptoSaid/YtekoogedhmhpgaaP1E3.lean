/- Plain words about numbers: the kinds' widths, canonical words, bytes of a word. No program in it. Words on worlds: all is as it was but for blocks that are named, and new ones. No program in it. The contracts of package word's small functions and of the reference's: Width, Bytes, signed, Canon, Is. -/
import Derived.WalkKit
import Derived.Laws.BitsAllLaws
import Derived.Lib.Hide
import Derived.Deep.OwnRows
import Derived.WalkSmall
import Derived.Deep.QuietTactic
import Derived.Test.YtekoogedhmhpgaaRows
import Derived.WalkSpells
import Derived.WalkLawsBesides
import Derived.BigQuiet
namespace Go.Proofs.Ytekoogedhmhpgaa
open Go.RowKit

/-- How many bits a kind's words have. -/
def width (k : Int) : Int :=
  if k = 1 then 1 else if k = 2 then 8 else if k = 3 then 16 else if k = 4 then 32 else if k = 5 then 64 else if k = 6 then 8 else if k = 7 then 16 else if k = 8 then 32 else if k = 9 then 64 else if k = 10 then 64 else if k = 11 then 64 else 0
def nbytes (k : Int) : Int :=
  if k = 1 then 1 else if k = 2 then 1 else if k = 3 then 2 else if k = 4 then 4 else if k = 5 then 8 else if k = 6 then 1 else if k = 7 then 2 else if k = 8 then 4 else if k = 9 then 8 else if k = 10 then 8 else if k = 11 then 8 else 0
/-- Byte i of a word. -/
def byteOf (x : Int) (i : Nat) : Int := x / 256 ^ i % 256
/-- Bytes in which the first k bytes of a word have been laid from place a on. -/
def laid (G : Nat → Int) (x : Int) (a k i : Nat) : Int := if a ≤ i ∧ i < a + k then byteOf x (i - a) else G i
end Go.Proofs.Ytekoogedhmhpgaa

namespace Go.Proofs.Ytekoogedhmhpgaa
open Go.RowKit

/-- w' is w but for the blocks that S names and for new ones; the streams are as they were. -/
structure Keep (S : Nat → Prop) (w w' : World) : Prop where
  os : w'.os = w.os
  tape : w'.tape = w.tape
  output : w'.output = w.output
  size : w.heap.size ≤ w'.heap.size
  block : ∀ i, i < w.heap.size → ¬ S i → w'.heap[i]? = w.heap[i]?

namespace Keep
variable {S T : Nat → Prop} {w w' w'' : World}
theorem refl (S : Nat → Prop) (w : World) : Keep S w w := ⟨rfl, rfl, rfl, Nat.le_refl _, fun _ _ _ => rfl⟩
theorem trans (h : Keep S w w') (k : Keep S w' w'') : Keep S w w'' :=
  ⟨k.os.trans h.os, k.tape.trans h.tape, k.output.trans h.output, Nat.le_trans h.size k.size, fun i hi hs => (k.block i (Nat.lt_of_lt_of_le hi h.size) hs).trans (h.block i hi hs)⟩
theorem mono (h : Keep S w w') (hs : ∀ i, S i → T i) : Keep T w w' := ⟨h.os, h.tape, h.output, h.size, fun i hi ht => h.block i hi (fun s => ht (hs i s))⟩
/-- Two steps, of which the second may write what is new to the first, too. -/
theorem trans' (h : Keep S w w') (k : Keep T w' w'') (hs : ∀ i, i < w.heap.size → T i → S i) : Keep S w w'' :=
  ⟨k.os.trans h.os, k.tape.trans h.tape, k.output.trans h.output, Nat.le_trans h.size k.size, fun i hi hS => (k.block i (Nat.lt_of_lt_of_le hi h.size) (fun t => hS (hs i hi t))).trans (h.block i hi hS)⟩
theorem drew (h : Keep S w w') : Keep S w w'.drew := ⟨h.os, h.tape, h.output, h.size, h.block⟩
theorem drewN (h : Keep S w w') (n : Nat) : Keep S w (w'.drewN n) := ⟨h.os, h.tape, h.output, h.size, h.block⟩
theorem alloc (h : Keep S w w') (o : Obj) : Keep S w (w'.alloc o) :=
  h.trans ⟨rfl, rfl, rfl, by simp, fun k hk _ => Below.heap_alloc _ _ _ hk⟩
theorem setCell (h : Keep S w w') {a : Addr} (ha : a.block < w.heap.size → S a.block) (v : Value) : Keep S w (w'.setCell a v) :=
  h.trans' (T := fun i => i = a.block) ⟨rfl, rfl, rfl, by simp [World.setCell], fun k _ hk => Below.heap_setCell _ _ _ _ hk⟩ (fun i hi e => by subst e; exact ha hi)
theorem grown {row : Option Nat} (h : Keep S w w') (hg : w'.grownBy w'' row) (hr : ∀ k, row = some k → k < w.heap.size → S k) : Keep S w w'' :=
  h.trans' (T := fun i => row = some i) ⟨hg.os, hg.tape, hg.output, hg.size, fun k hk hn => hg.block k hk (fun e => hn e.symm)⟩ (fun i hi e => hr i e hi)
theorem cell (h : Keep S w w') {a : Addr} (ha : a.block < w.heap.size) (hs : ¬ S a.block) : w'.cell? a = w.cell? a := World.cell?_of_block (w := w) (h.block _ ha hs)
theorem frozen (h : Keep S w w') {a : Addr} (ha : a.block < w.heap.size) (hs : ¬ S a.block) : w'.frozen? a = w.frozen? a := World.frozen?_of_block (w := w) (h.block _ ha hs)
theorem row (h : Keep S w w') {b : Nat} {t : TypeId} {n : Nat} {f : Nat → Value} (hr : w.rowIs b t n f) (hs : ¬ S b) : w'.rowIs b t n f := hr.of_block (h.block b hr.lt hs)
theorem below (h : Keep (fun _ => False) w w') : Below w.heap.size w w' := ⟨h.os, h.tape, h.output, h.size, fun k hk => h.block k hk (fun f => f)⟩
end Keep

end Go.Proofs.Ytekoogedhmhpgaa

namespace Go.Proofs.Ytekoogedhmhpgaa
open Go.RowKit

theorem ret_int {k : IntKind} {a b : Int} (h : a = b) : Ending.returned (.int k a) = .returned (.int k b) := by rw [h]
theorem ret_bool {a b : Bool} (h : a = b) : Ending.returned (.bool a) = .returned (.bool b) := by rw [h]
theorem kinds_of {k : Int} (h : 1 ≤ k ∧ k ≤ 11) : k = 1 ∨ k = 2 ∨ k = 3 ∨ k = 4 ∨ k = 5 ∨ k = 6 ∨ k = 7 ∨ k = 8 ∨ k = 9 ∨ k = 10 ∨ k = 11 := by omega
theorem width_none {k : Int} (h : ¬ (1 ≤ k ∧ k ≤ 11)) : width k = 0 := by
  unfold width
  repeat (first | rfl | rw [if_neg (by omega)])
theorem nbytes_none {k : Int} (h : ¬ (1 ≤ k ∧ k ≤ 11)) : nbytes k = 0 := by
  unfold nbytes
  repeat (first | rfl | rw [if_neg (by omega)])
set_option maxHeartbeats 400000 in
set_option maxRecDepth 100000 in
theorem word_Width (k : Int) (w : World) :
    Calls Try.prog 117 #[.int .i64 k] w fun e w' => e = .returned (.int .i64 (width k)) ∧ w = w' := by
  by_cases h : 1 ≤ k ∧ k ≤ 11
  · have := kinds_of h
    clear h
    rcases this with rfl | rfl | rfl | rfl | rfl | rfl | rfl | rfl | rfl | rfl | rfl
    all_goals
      go_enter Try.func117, Try.ntmps117
      go_wp2
      go_ret
      exact ⟨rfl, rfl⟩
  · have hz := Lib.hid (width_none h)
    go_enter Try.func117, Try.ntmps117
    go_wp2
    all_goals first | (exfalso; omega) | (go_ret; exact ⟨ret_int hz.out.symm, rfl⟩)

set_option maxHeartbeats 400000 in
set_option maxRecDepth 100000 in
theorem word_Bytes (k : Int) (w : World) :
    Calls Try.prog 61 #[.int .i64 k] w fun e w' => e = .returned (.int .i64 (nbytes k)) ∧ w = w' := by
  by_cases h : 1 ≤ k ∧ k ≤ 11
  · have := kinds_of h
    clear h
    rcases this with rfl | rfl | rfl | rfl | rfl | rfl | rfl | rfl | rfl | rfl | rfl
    all_goals
      go_enter Try.func61, Try.ntmps61
      go_wp2
      go_ret
      exact ⟨rfl, rfl⟩
  · have hz := Lib.hid (nbytes_none h)
    have hw := Lib.hid (width_none h)
    have hk : (k == 1) = false := by rw [beq_eq_false_iff_ne]; omega
    go_enter Try.func61, Try.ntmps61
    go_wp2_with (go_at_call 117; refine (word_Width _ _).mono ?_; rintro e w' ⟨rfl, rfl⟩; rw [hw.out])
    go_ret
    exact ⟨ret_int hz.out.symm, rfl⟩

end Go.Proofs.Ytekoogedhmhpgaa

