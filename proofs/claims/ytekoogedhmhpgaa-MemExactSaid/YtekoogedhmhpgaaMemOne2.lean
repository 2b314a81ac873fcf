/- The walk of 'one': bytes got and put by both memories. -/
import Derived.Test.YtekoogedhmhpgaaMemOne
import Derived.Test.YtekoogedhmhpgaaQx4
namespace Go.Proofs.Ytekoogedhmhpgaa
open Go.RowKit Go.Proofs.YtekoogedhmhpgaaW.PrintWords

theorem eqBytes_loop (l : List Int) (hl : l.length ≤ 140737488351232) (d : Nat) : ∀ (k : Nat) (i : Int), 0 ≤ i → (l.length : Int) - i = d → d < k → Q.gantryref0_EqBytes.l0 k l l i = some true := by
  induction d with
  | zero =>
    intro k i h0 hd hk
    obtain ⟨k, rfl⟩ : ∃ m, k = m + 1 := ⟨k - 1, by omega⟩
    simp only [Q.gantryref0_EqBytes.l0]
    rw [if_neg (by omega)]
  | succ d ih =>
    intro k i h0 hd hk
    obtain ⟨k, rfl⟩ : ∃ m, k = m + 1 := ⟨k - 1, by omega⟩
    simp only [Q.gantryref0_EqBytes.l0]
    rw [if_pos (by omega), if_pos h0, if_pos (by omega), if_pos trivial, show wrap64 (i + 1) = i + 1 from by unfold wrap64; omega]
    exact ih k (i + 1) (by omega) (by omega) (by omega)
theorem eqBytes_ok (A B : Option Addr) (c c' : Nat) (l : List Int) (w : World) (hl : l.length ≤ 140737488351232) (h0 : (Kd.int .u8).C w A l.length l) (h1 : l.length ≤ c) (h2 : (Kd.int .u8).C w B l.length l) (h3 : l.length ≤ c') :
    Calls Try.prog 23 #[.slice A l.length c, .slice B l.length c'] w fun e w' => e = .returned (.bool true) ∧ Drawn0 w w' :=
  Q.gantryref0_EqBytes.calls (l.length + 1) A c l B c' l true w h0 h1 h2 h3 (by
    unfold Q.gantryref0_EqBytes.f
    rw [if_pos rfl]
    exact eqBytes_loop l hl l.length _ 0 (by omega) (by omega) (by omega))
theorem copyBytes_ok (A : Option Addr) (c : Nat) (l : List Int) (w : World) (hl : l.length ≤ 140737488351232) (h0 : (Kd.int .u8).C w A l.length l) (h1 : l.length ≤ c) :
    Calls Try.prog 57 #[.slice A l.length c] w fun e w' => ∃ v, e = .returned v ∧ w'.ownsRow w.heap.size 5 1 v l.length (nums .u8 l) ∧ Below w.heap.size w w' :=
  (Q.gantryref0_CopyBytes.calls A c l l w h0 h1 (by unfold Q.gantryref0_CopyBytes.f; rw [if_pos (by simp; omega)]; rfl)).mono fun e w' ⟨v, he, hr, hb⟩ => ⟨v, he, Kd.own_of_R hr, hb⟩
theorem law0Bytes_loop (n : Nat) (hn : n ≤ 1048576) (d : Nat) : ∀ (k : Nat) (l : List Int) (i : Int), l.length = n → 0 ≤ i → (n : Int) - i = d → d < k → Q.gantrylaw0_Bytes.l0 k l i = some () := by
  induction d with
  | zero =>
    intro k l i hl h0 hd hk
    obtain ⟨k, rfl⟩ : ∃ m, k = m + 1 := ⟨k - 1, by omega⟩
    simp only [Q.gantrylaw0_Bytes.l0]
    rw [if_neg (by omega), if_pos (by simp; omega)]
  | succ d ih =>
    intro k l i hl h0 hd hk
    obtain ⟨k, rfl⟩ : ∃ m, k = m + 1 := ⟨k - 1, by omega⟩
    simp only [Q.gantrylaw0_Bytes.l0]
    rw [if_pos (by omega), if_pos h0, show wrap64 (i + 1) = i + 1 from by unfold wrap64; omega]
    exact ih k _ (i + 1) (by simp [hl]) (by omega) (by omega) (by omega)
/-- The world as it was when it had B blocks, as far as w knows. -/
def World.first (w : World) (B : Nat) : World := { w with heap := w.heap.extract 0 B }
theorem first_size {w : World} {B : Nat} (h : B ≤ w.heap.size) : (World.first w B).heap.size = B := by
  simp [World.first]; omega
theorem first_below {w : World} {B : Nat} (h : B ≤ w.heap.size) : Below (World.first w B).heap.size (World.first w B) w := by
  refine ⟨rfl, rfl, rfl, by rw [first_size h]; exact h, fun k hk => ?_⟩
  rw [first_size h] at hk
  simp only [World.first]
  rw [Array.getElem?_extract, if_pos (by omega), Nat.zero_add]
theorem law0Bytes_ok (v : Value) (l : List Int) (B : Nat) (w : World) (hl : l.length ≤ 1048576) (hB : B ≤ w.heap.size) (h : w.ownsRow B 5 1 v l.length (nums .u8 l)) :
    Calls Try.prog 54 #[v] w fun e w' => e = .returned (.tuple #[]) ∧ Keep (fun i => v.ownBlock = some i) w w' :=
  (Q.gantrylaw0_Bytes.calls (l.length + 1) (fun i => v.ownBlock = some i) v l (World.first w B) w (first_below hB) (Kd.R_of_own (by rw [first_size hB]; exact h) (fun _ hk => hk)) (law0Bytes_loop l.length hl l.length _ l 0 rfl (by omega) (by omega) (by omega))).mono
    fun e w' ⟨he, hb, hk⟩ => ⟨he, ⟨hb.os, hb.tape, hb.output, hk.1, fun i hi hn => hk.2 i hi hn⟩⟩
theorem bytes_none {w : World} {A : Option Addr} {bs : List Int} (h : bs.length = 0) : BytesAt w A bs :=
  ⟨rfl, by omega, fun hp => absurd hp (by omega)⟩

end Go.Proofs.Ytekoogedhmhpgaa
