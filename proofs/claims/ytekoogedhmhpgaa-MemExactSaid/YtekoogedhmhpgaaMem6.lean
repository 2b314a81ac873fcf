/- The contracts of what copies bytes: CopyBytes, EqBytes, slices.Clone, Get, Put of both memories, and the law's writing over. -/
import Derived.Test.YtekoogedhmhpgaaMem5
import Derived.Test.YtekoogedhmhpgaaWWords
import Derived.Laws.CopyOwn
namespace Go.Proofs.Ytekoogedhmhpgaa
open Go.RowKit Go.Proofs.YtekoogedhmhpgaaW.PrintWords

/-- Bytes that are read from address A: not nil where there are any. -/
def BytesAt (w : World) (A : Option Addr) (bs : List Int) : Prop := (Kd.int .u8).C w A bs.length bs
theorem BytesAt.cell {w : World} {A : Option Addr} {bs : List Int} (h : BytesAt w A bs) (hp : 0 < bs.length) : ∃ ad, A = some ad ∧ ∀ j, j < bs.length → w.cell? (ad.add j) = some (.int .u8 (bs.getD j 0)) := by
  obtain ⟨_, _, h3⟩ := h
  obtain ⟨ad, he, hc⟩ := h3 hp
  refine ⟨ad, he, fun j hj => ?_⟩
  obtain ⟨c, h1, h2, h4⟩ := hc j bs[j] (List.getElem?_eq_getElem hj)
  have h2' : c = [.int .u8 bs[j]] := h2
  subst h2'
  have := h4 0 _ rfl
  rw [show (Kd.int .u8).sz = 1 from rfl, Nat.mul_one, Nat.add_zero] at this
  rw [this, List.getD_eq_getElem?_getD, List.getElem?_eq_getElem hj]
  rfl

/-- The bytes of a memory from a on, n of them. -/
def bytesOfF (F : Nat → Int) (a n : Nat) : List Int := (List.range n).map fun i => F (a + i)
theorem bytesOfF_length (F : Nat → Int) (a n : Nat) : (bytesOfF F a n).length = n := by simp [bytesOfF]
theorem bytesOfF_get (F : Nat → Int) (a n i : Nat) (h : i < n) : (bytesOfF F a n).getD i 0 = F (a + i) := by
  simp [bytesOfF, List.getD_eq_getElem?_getD, h]

theorem own_empty (w : World) (e : TypeId) : (w.alloc (.cells #[] e)).ownsRow w.heap.size e 1 (.slice (some ⟨w.heap.size, 0, none⟩) 0 0) 0 [] :=
  ⟨rfl, .inr ⟨w.heap.size, 0, #[], rfl, Nat.le_refl _, Deep.blk_alloc_new _ _, Nat.le_refl _, by unfold maxLen; omega, rfl, rfl⟩⟩
theorem add_off (d a j : Nat) : (⟨d, a, none⟩ : Addr).add j = ⟨d, a + j, none⟩ := by
  unfold Addr.add
  split
  · simp_all
  · rfl
theorem cell?_alloc_some {w : World} {o : Obj} {ad : Addr} {v : Value} (h : w.cell? ad = some v) : (w.alloc o).cell? ad = some v :=
  (((Keep.refl (fun _ => False) w).alloc o).cell_some h (fun f => f))

set_option maxHeartbeats 400000 in
set_option maxRecDepth 100000 in
theorem clone_ok (d a m : Nat) (F : Nat → Int) (w : World) (hc : ∀ i, i < m → w.cell? ⟨d, a + i, none⟩ = some (.int .u8 (F (a + i)))) (hm : 1 ≤ m) (hm2 : m ≤ 1048576) :
    Calls Try.prog 79 #[.slice (some ⟨d, a, none⟩) m m] w fun e w' => ∃ v, e = .returned v ∧ w'.ownsRow w.heap.size 5 1 v m (nums .u8 (bytesOfF F a m)) ∧ Below w.heap.size w w' := by
  obtain ⟨i0, hi, hz0, hz1, hz2⟩ := info_parts Try.infoU8
  have hq := fun wx : World => Lib.run_eql_slice_nil (P := Try.prog) wx 30 5 (some ⟨d, a, none⟩) m m 0 0 Try.underlying30
  go_enter Try.func79, Try.ntmps79
  go_wp2_with (at_builtin; refine wpList_append_own _ rfl (.tmp 5) (.tmp 6) 30 rfl w.heap.size 5 i0 (.int .u8 0) 1 1 Try.underlying30 hi hz0 hz1 hz2 rfl (by decide) _ 0 [] rfl (own_empty w _) ⟨d, a, none⟩ m m (nums .u8 (bytesOfF F a m)) rfl ?c1 ?c2 ?c3 ?c4 ?c5 ?c6 ?_)
  case c1 => rw [nums_length, bytesOfF_length, Nat.mul_one]
  case c2 =>
    intro j u hj
    have hjm : j < m := by have := (List.getElem?_eq_some_iff.1 hj).1; rwa [nums_length, bytesOfF_length] at this
    have hu : u = .int .u8 (F (a + j)) := by
      simp [nums, bytesOfF, hjm] at hj
      exact hj.symm
    subst hu
    have h1 := hc j hjm
    rw [show (⟨d, a, none⟩ : Addr).add j = ⟨d, a + j, none⟩ from add_off d a j]
    rw [cell?_alloc_some h1]
  case c3 =>
    intro u hu
    simp only [nums, List.mem_map] at hu
    obtain ⟨_, _, rfl⟩ := hu
    rfl
  case c4 => unfold maxLen; omega
  case c5 => omega
  case c6 => simp
  intro v' w1 hown hgrow _
  have hB : Below w.heap.size w w1 := ((Below.refl _ _).alloc (Nat.le_refl _) _).grown hgrow (by simp) (fun k hk => by simp [Value.ownBlock] at hk; omega)
  have O := Lib.hid hown
  clear hown hgrow
  obtain ⟨A, c, rfl⟩ := own_slice O.out
  go_wp2
  go_ret
  exact ⟨_, rfl, O.out, hB⟩

set_option maxHeartbeats 400000 in
set_option maxRecDepth 100000 in
theorem get_zero (g : Nat) (a : Int) (w : World) :
    Calls Try.prog 22 #[.pointer (some ⟨g, 0, none⟩), .int .u64 a, .int .i64 0] w fun e w' => e = .returned (.tuple #[.slice none 0 0, .int .i64 0]) ∧ w = w' := by
  go_enter Try.func22, Try.ntmps22
  go_wp2
  go_ret2
  exact ⟨rfl, rfl⟩

set_option maxHeartbeats 400000 in
set_option maxRecDepth 100000 in
theorem get_no (g d n : Nat) (a m : Int) (G : Nat → Int) (w : World) (h : MemAt w g d n G) (ha0 : 0 ≤ a) (ha1 : a < 18446744073709551616) (hm0 : -9223372036854775808 ≤ m) (hm1 : m < 9223372036854775808) (hm : m < 0 ∨ (0 < m ∧ (a < 4096 ∨ n < a + m))) :
    Calls Try.prog 22 #[.pointer (some ⟨g, 0, none⟩), .int .u64 a, .int .i64 m] w fun e w' => e = .returned (.tuple #[.slice none 0 0, .int .i64 21]) ∧ w = w' := by
  have hc := h.cell
  have hn := h.hi
  have hm' := Lib.hid hm
  have hz : (m == 0) = false := by rw [beq_eq_false_iff_ne]; omega
  clear h hm
  go_enter Try.func22, Try.ntmps22
  go_wp2_with (go_at_call 63; refine (at_no g d n a m _ hc hn ha0 ha1 hm0 hm1 (by have := hm'.out; omega)).mono ?_; rintro e w' ⟨rfl, rfl⟩)
  go_ret2
  exact ⟨rfl, rfl⟩

set_option maxHeartbeats 400000 in
set_option maxRecDepth 100000 in
theorem get_ok (g d n a m : Nat) (G : Nat → Int) (w : World) (h : MemAt w g d n G) (hm : 1 ≤ m) (h1 : 4096 ≤ a) (h2 : a + m ≤ n) :
    Calls Try.prog 22 #[.pointer (some ⟨g, 0, none⟩), .int .u64 a, .int .i64 m] w fun e w' => ∃ v, e = .returned (.tuple #[v, .int .i64 0]) ∧ w'.ownsRow w.heap.size 5 1 v m (nums .u8 (bytesOfF G a m)) ∧ Below w.heap.size w w' := by
  have hc := h.cell
  have hn := h.hi
  have hrow := Lib.hid h.row
  have hz : ((m : Int) == 0) = false := by rw [beq_eq_false_iff_ne]; omega
  clear h
  go_enter Try.func22, Try.ntmps22
  go_wp2_with (first | (go_at_call 63; refine (at_ok g d n a m _ hc hn hm h1 h2).mono ?_; rintro e w' ⟨rfl, rfl⟩) | (go_at_call 79; refine (clone_ok d a m G _ (fun i hi => hrow.out.cell (by omega)) hm (by omega)).mono ?_; rintro e w1 ⟨v, rfl, ho, hb⟩; have O := Lib.hid ho; have B := Lib.hid hb; clear ho hb))
  obtain ⟨A, c, rfl⟩ := own_slice O.out
  go_ret2
  exact ⟨_, rfl, O.out, B.out⟩

/-- Bytes in which a list of them has been put from place a on. -/
def poked (G : Nat → Int) (a : Nat) (bs : List Int) (i : Nat) : Int := if a ≤ i ∧ i < a + bs.length then bs.getD (i - a) 0 else G i
theorem poked_bytes {G : Nat → Int} {bs : List Int} {a : Nat} (h : ∀ i, 0 ≤ G i ∧ G i ≤ 255) (hb : ∀ x ∈ bs, 0 ≤ x ∧ x ≤ 255) : ∀ i, 0 ≤ poked G a bs i ∧ poked G a bs i ≤ 255 := by
  intro i
  unfold poked
  split
  · rename_i hi
    rw [List.getD_eq_getElem?_getD, List.getElem?_eq_getElem (show i - a < bs.length by omega)]
    exact hb _ (List.getElem_mem _)
  · exact h i
theorem MemAt.put {w w' : World} {g d n a : Nat} {F : Nat → Int} {bs : List Int} (h : MemAt w g d n F) (hb : ∀ x ∈ bs, 0 ≤ x ∧ x ≤ 255) (hr : w'.rowIs d 5 n (fun i => .int .u8 (poked F a bs i))) (k : Keep (· = d) w w') : MemAt w' g d n (poked F a bs) :=
  ⟨h.ptr.imp fun _ p => k.row p h.ne, hr, h.ne, h.lo, h.hi, poked_bytes h.bytes hb⟩
theorem rowIs_put {w : World} {d n a : Nat} {F : Nat → Int} {bs : List Int} {c : Array Value} (hc : w.heap[d]? = some (.cells c 5 (0, 0))) (hn : c.size = n) (hF : ∀ i, i < n → c[i]? = some (.int .u8 (F i))) (h : a + bs.length ≤ n) :
    (w.setRow d (c.toList.take a ++ (nums .u8 bs ++ c.toList.drop (a + (nums .u8 bs).length))).toArray).rowIs d 5 n (fun i => .int .u8 (poked F a bs i)) := by
  refine ⟨_, setRow_heap w d _ _ _ _ hc, ?_, fun i hi => ?_⟩
  · simp [nums_length]; omega
  · have hF' : ∀ i, i < n → c.toList[i]? = some (.int .u8 (F i)) := fun i hi => by rw [Array.getElem?_toList]; exact hF i hi
    rw [List.getElem?_toArray, List.getElem?_append]
    have hl : (c.toList.take a).length = a := by simp; omega
    rw [hl]
    show _ = some (Value.int .u8 (poked F a bs i))
    unfold poked
    by_cases h1 : i < a
    · rw [if_pos h1, if_neg (show ¬ (a ≤ i ∧ i < a + bs.length) by omega), List.getElem?_take, if_pos h1]
      exact hF' i hi
    · rw [if_neg h1, List.getElem?_append, nums_length]
      by_cases h2 : i - a < bs.length
      · rw [if_pos h2, if_pos (show a ≤ i ∧ i < a + bs.length by omega)]
        simp [nums, List.getElem?_eq_getElem h2, List.getD_eq_getElem?_getD]
      · rw [if_neg h2, if_neg (show ¬ (a ≤ i ∧ i < a + bs.length) by omega), List.getElem?_drop, show a + bs.length + (i - a - bs.length) = i from by omega]
        exact hF' i hi
theorem keep_setRow (w : World) (d : Nat) (cs : Array Value) : Keep (· = d) w (w.setRow d cs) :=
  ⟨rfl, rfl, rfl, by simp [World.setRow], fun i _ hi => setRow_other w d i cs hi⟩

set_option maxHeartbeats 400000 in
set_option maxRecDepth 100000 in
theorem put_zero (g : Nat) (a : Int) (A : Option Addr) (c : Nat) (w : World) :
    Calls Try.prog 77 #[.pointer (some ⟨g, 0, none⟩), .int .u64 a, .slice A 0 c] w fun e w' => e = .returned (.int .i64 0) ∧ w = w' := by
  go_enter Try.func77, Try.ntmps77
  go_wp2
  go_ret
  exact ⟨rfl, rfl⟩

theorem put_zero' (g m : Nat) (a : Int) (A : Option Addr) (c : Nat) (w : World) (h : m = 0) :
    Calls Try.prog 77 #[.pointer (some ⟨g, 0, none⟩), .int .u64 a, .slice A m c] w fun e w' => e = .returned (.int .i64 0) ∧ w = w' := by
  subst h
  exact put_zero g a A c w

set_option maxHeartbeats 400000 in
set_option maxRecDepth 100000 in
theorem put_no (g d n m c : Nat) (a : Int) (A : Option Addr) (G : Nat → Int) (w : World) (h : MemAt w g d n G) (ha0 : 0 ≤ a) (ha1 : a < 18446744073709551616) (hm1 : m < 9223372036854775808) (hm : 0 < m) (hf : a < 4096 ∨ n < a + m) :
    Calls Try.prog 77 #[.pointer (some ⟨g, 0, none⟩), .int .u64 a, .slice A m c] w fun e w' => e = .returned (.int .i64 21) ∧ w = w' := by
  have hc := h.cell
  have hn := h.hi
  have hf' := Lib.hid hf
  have hz : ((m : Int) == 0) = false := by rw [beq_eq_false_iff_ne]; omega
  clear h hf
  go_enter Try.func77, Try.ntmps77
  go_wp2_with (go_at_call 63; refine (at_no g d n a _ _ hc hn ha0 ha1 (by omega) (by omega) (by have := hf'.out; omega)).mono ?_; rintro e w' ⟨rfl, rfl⟩)
  go_ret
  exact ⟨rfl, rfl⟩

set_option maxHeartbeats 400000 in
set_option maxRecDepth 100000 in
theorem put_ok (g d n a c : Nat) (A : Option Addr) (bs : List Int) (G : Nat → Int) (w : World) (h : MemAt w g d n G) (hA : BytesAt w A bs) (hb : ∀ x ∈ bs, 0 ≤ x ∧ x ≤ 255) (hm : 1 ≤ bs.length) (h1 : 4096 ≤ a) (h2 : a + bs.length ≤ n) :
    Calls Try.prog 77 #[.pointer (some ⟨g, 0, none⟩), .int .u64 a, .slice A bs.length c] w fun e w' => e = .returned (.int .i64 0) ∧ MemAt w' g d n (poked G a bs) ∧ Keep (· = d) w w' := by
  have hc := h.cell
  have hn := h.hi
  obtain ⟨ar, hr1, hr2, hr3⟩ := h.row
  obtain ⟨ad, rfl, hcells⟩ := hA.cell (by omega)
  have H := Lib.hid h
  have HC := Lib.hid hcells
  have R1 := Lib.hid hr1
  have R2 := Lib.hid hr2
  have R3 := Lib.hid hr3
  obtain ⟨m, hmm⟩ : ∃ m, m = bs.length := ⟨_, rfl⟩
  have M := Lib.hid hmm
  rw [← hmm] at hm h2 ⊢
  have hz : ((m : Int) == 0) = false := by rw [beq_eq_false_iff_ne]; omega
  clear h hA hr1 hr2 hr3 hcells hmm
  have hsz : (Try.prog.info? 5).map (·.size) = some 1 := by kernel_rfl
  have hs' := Lib.hid hsz
  clear hsz
  go_enter Try.func77, Try.ntmps77
  go_wp2_with (first
    | (go_at_call 63; refine (at_ok g d n a m _ hc hn (by omega) h1 h2).mono ?_; rintro e w' ⟨rfl, rfl⟩)
    | (with_reducible refine wpList_copy_own (o := ⟨some 24, _, _, _, _, _⟩) ?h0 (.tmp 22) (.tmp 23) 30 30 ?h1 5 ?h2 ?h3 d a m m ad m c ?h4 ?h5 ar 5 ?h6 (nums .u8 bs) ?c1 ?c2 ?c3 ?c4 ?_))
  case h0 => rfl
  case h1 => rfl
  case h2 => exact Try.underlying30
  case h3 => exact hs'.out
  case h4 => rfl
  case h5 => rfl
  case h6 => exact R1.out
  case c1 => rw [nums_length, ← M.out]; exact (Nat.min_self m).symm
  case c2 =>
    intro j v hj
    have hjl : j < bs.length := by have := (List.getElem?_eq_some_iff.1 hj).1; rwa [nums_length] at this
    rw [HC.out j hjl]
    simp [nums, List.getElem?_eq_getElem hjl] at hj
    rw [List.getD_eq_getElem?_getD, List.getElem?_eq_getElem hjl, ← hj]
    rfl
  case c3 => rw [nums_length, ← M.out, R2.out]; exact h2
  case c4 =>
    intro u hu
    simp only [nums, List.mem_map] at hu
    obtain ⟨_, _, rfl⟩ := hu
    rfl
  go_wp2
  go_ret
  have hk := keep_setRow w d (ar.toList.take a ++ (nums .u8 bs ++ ar.toList.drop (a + (nums .u8 bs).length))).toArray
  exact ⟨rfl, H.out.put hb (rowIs_put R1.out R2.out R3.out (by rw [← M.out]; exact h2)) hk, hk⟩

theorem poke_step (G : Nat → Int) (a k : Nat) (bs : List Int) (hk : k < bs.length) (i : Nat) : (if i = a + k then Value.int .u8 (bs.getD k 0) else .int .u8 (poked G a (bs.take k) i)) = .int .u8 (poked G a (bs.take (k + 1)) i) := by
  have h1 : (bs.take k).length = k := by simp; omega
  have h2 : (bs.take (k + 1)).length = k + 1 := by simp; omega
  unfold poked
  rw [h1, h2]
  by_cases h : i = a + k
  · subst h
    rw [if_pos rfl, if_pos (by omega), show a + k - a = k from by omega, List.getD_eq_getElem?_getD, List.getD_eq_getElem?_getD, List.getElem?_take, if_pos (by omega)]
  · rw [if_neg h]
    by_cases h3 : a ≤ i ∧ i < a + k
    · rw [if_pos h3, if_pos (by omega), List.getD_eq_getElem?_getD, List.getD_eq_getElem?_getD, List.getElem?_take, if_pos (by omega), List.getElem?_take, if_pos (by omega)]
    · rw [if_neg h3, if_neg (by omega)]
theorem poked_nil (G : Nat → Int) (a : Nat) : poked G a [] = G := by
  funext i
  unfold poked
  rw [if_neg (by simp)]
theorem rowIs_drewN {w : World} {d t n m : Nat} {f : Nat → Value} (h : w.rowIs d t n f) : (w.drewN m).rowIs d t n f := h
theorem bytesAt_keep {w w' : World} {S : Nat → Prop} {A : Option Addr} {bs : List Int} (h : BytesAt w A bs) (k : Keep S w w') (hs : 0 < bs.length → ∀ ad, A = some ad → ¬ S ad.block) : BytesAt w' A bs := by
  obtain ⟨h1, h2, h3⟩ := h
  refine ⟨h1, h2, fun hp => ?_⟩
  obtain ⟨ad, he, hc⟩ := h3 hp
  refine ⟨ad, he, fun j p hj => ?_⟩
  obtain ⟨c, h4, h5, h6⟩ := hc j p hj
  refine ⟨c, h4, h5, fun i u hu => k.cell_some (h6 i u hu) ?_⟩
  rw [add_block]
  exact hs hp ad he
theorem off_of_add (ad : Addr) (j : Nat) : ad.add j = ⟨ad.block, ad.off + j, none⟩ ∨ (j = 0 ∧ ad.add j = ad) := by
  unfold Addr.add
  split
  · right; simp_all
  · left; rfl

set_option maxHeartbeats 800000 in
set_option maxRecDepth 100000 in
theorem rput_ok (g d n a c : Nat) (A : Option Addr) (bs : List Int) (G : Nat → Int) (w : World) (h : MemAt w g d n G) (hA : BytesAt w A bs) (hb : ∀ x ∈ bs, 0 ≤ x ∧ x ≤ 255) (hd : 0 < bs.length → ∀ ad, A = some ad → ad.block ≠ d) (h12 : 0 < bs.length → 4096 ≤ a ∧ a + bs.length ≤ n) (ha : a < 18446744073709551616) (hl : bs.length ≤ 1048576) :
    Calls Try.prog 78 #[.pointer (some ⟨g, 0, none⟩), .int .u64 a, .slice A bs.length c] w fun e w' => e = .returned (.tuple #[]) ∧ MemAt w' g d n (poked G a bs) ∧ Keep (· = d) w w' := by
  have hn := h.hi
  have H := Lib.hid h
  have HA := Lib.hid hA
  have HD := Lib.hid hd
  have HB := Lib.hid hb
  obtain ⟨m, hmm⟩ : ∃ m, m = bs.length := ⟨_, rfl⟩
  have M := Lib.hid hmm
  rw [← hmm] at h12 hl ⊢
  have H12 := Lib.hid h12
  clear h hA hd hb hmm h12
  go_enter Try.func78, Try.ntmps78
  go_wp2
  go_loopw [6] (fun i wr => ∃ k : Nat, k ≤ m ∧ i = .int .i64 k ∧ Hid (MemAt wr g d n (poked G a (bs.take k))) ∧ Hid (Keep (· = d) w wr)) (fun i _ => m - (intOf i).toNat)
  case atStart => exact ⟨0, Nat.zero_le _, rfl, Lib.hid (by rw [List.take_zero, poked_nil]; exact H.out), Lib.hid (Keep.refl _ _)⟩
  case round =>
    obtain ⟨k, hk, rfl, hM, hK⟩ := hrel
    by_cases hlt : k < m
    · have hml := M.out
      obtain ⟨h1, h2⟩ := H12.out (by omega)
      obtain ⟨ad, rfl, hcells⟩ := (bytesAt_keep HA.out hK.out HD.out).cell (by omega)
      have hcb := hcells k (by omega)
      have hst := poke_step G a k bs (by omega)
      generalize bs.getD k 0 = v at *
      have HS := Lib.hid hst
      have hc := hM.out.cell
      have hck := hM.out.row.cell (i := a + k) (by omega)
      have hfk := hM.out.row.frozen (a + k)
      clear hcells hst hml
      go_wp2
      go_region
      go_wp2
      go_roundw
      case rel =>
        have hR := (hM.out.row.set (a + k) (.int .u8 v)).congr (fun i _ => HS.out i)
        have hS := hK.out.setCell (a := ⟨d, a + k, none⟩) (fun _ => rfl) (.int .u8 v)
        have hS' := (Keep.refl (· = d) wr).setCell (a := ⟨d, a + k, none⟩) (fun _ => rfl) (.int .u8 v)
        exact ⟨k + 1, by omega, by go_num, Lib.hid ⟨hM.out.ptr.imp fun _ p => hS'.row p hM.out.ne, hR, hM.out.ne, hM.out.lo, hM.out.hi, poked_bytes H.out.bytes (fun x hx => HB.out x (List.mem_of_mem_take hx))⟩, Lib.hid hS.drew⟩
      case measure => simp [intOf]; omega
    · have hml := M.out
      obtain rfl : k = m := by omega
      rw [hml, List.take_length] at hM
      clear hml
      go_wp2
      go_end0
      exact ⟨rfl, hM.out, hK.out⟩

end Go.Proofs.Ytekoogedhmhpgaa
