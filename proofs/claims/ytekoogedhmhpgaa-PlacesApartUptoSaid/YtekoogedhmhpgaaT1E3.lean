/- The contracts of package types' small functions: scalar, up, the closures of shaped. How the values of package types (lie) stand in memory, kind by kind (written by a program of mine over the kit's kinds.py). The contract of types.shaped. The contracts of types.one and of the closure that it is handed. The contract of types.one where the entry is no struct. What types.one keeps while it lays out a struct: the lie in its own block, its three rows apart. A region that draws its order: operations that leave the world as it is, or yield what no store of the region changes, come first, in an order of the prover's; the others one behind the other. -/
import Derived.Test.YtekoogedhmhpgaaP1E3
import Derived.Test.YtekoogedhmhpgaaQx0E3
import Derived.Laws.EntriesVeiled
import Derived.Test.YtekoogedhmhpgaaWWords
import Derived.Maps.AppendAt
import Derived.Deep.RegionHeld3
import Derived.Deep.AppendLies
import Derived.StillTail
import Derived.StillTactics
namespace Go.Proofs.Ytekoogedhmhpgaa
open Go.RowKit Go.Proofs.YtekoogedhmhpgaaW.PrintWords Go.Proofs.Ytekoogedhmhpgaa.Q

def entryB (k e : Int) : Bool := decide (0 ≤ k ∧ k < e)
def upN (n a : Int) : Int := (n + a - 1) / a * a
theorem upN_bd {n a : Int} (h : 1 ≤ a) : n ≤ upN n a ∧ upN n a ≤ n + a - 1 := by
  unfold upN
  have h1 := Int.emod_add_mul_ediv (n + a - 1) a
  have h2 := Int.emod_nonneg (n + a - 1) (show a ≠ 0 by omega)
  have h3 := Int.emod_lt_of_pos (n + a - 1) (show 0 < a by omega)
  rw [Int.mul_comm] at h1
  omega
theorem upN_wrap {n a : Int} (h : 1 ≤ a) (h0 : 0 ≤ n) (h1 : n + a ≤ 9223372036854775807) : wrap64 ((n + a - 1) / a * a) = upN n a := by
  have := upN_bd (n := n) h
  unfold upN at *
  unfold wrap64
  omega

set_option maxHeartbeats 400000 in
set_option maxRecDepth 100000 in
theorem scalar_ok (k : Int) (w : World) : Calls Try.prog 149 #[.int .i64 k] w fun e w' => e = .returned (.bool (decide (1 ≤ k ∧ k ≤ 11))) ∧ w = w' := by
  go_enter Try.func149, Try.ntmps149
  go_wp2
  all_goals
    go_ret
    exact ⟨ret_bool (by rw [Bool.eq_iff_iff]; simp; omega), rfl⟩

set_option maxHeartbeats 400000 in
set_option maxRecDepth 100000 in
theorem entry1_ok (k e : Int) (w : World) : Calls Try.prog 148 #[.int .i64 k, .int .i64 e] w fun en w' => en = .returned (.bool (entryB k e)) ∧ w = w' := by
  go_enter Try.func148, Try.ntmps148
  go_wp2
  all_goals
    go_ret
    exact ⟨ret_bool (by unfold entryB; rw [Bool.eq_iff_iff]; simp; try omega), rfl⟩

set_option maxHeartbeats 400000 in
set_option maxRecDepth 100000 in
theorem up_ok (n a : Int) (w : World) (h0 : 0 ≤ n) (h1 : n ≤ 4294967296) (h2 : 1 ≤ a) (h3 : a ≤ 8) : Calls Try.prog 152 #[.int .i64 n, .int .i64 a] w fun e w' => e = .returned (.int .i64 (upN n a)) ∧ w = w' := by
  go_enter Try.func152, Try.ntmps152
  go_wp2
  go_ret
  exact ⟨ret_int (upN_wrap h2 h0 (by omega)), rfl⟩

set_option maxHeartbeats 400000 in
set_option maxRecDepth 100000 in
theorem shaped2_ok (f i : Int) (b c : Nat) (w : World) (hb : w.cell? ⟨b, 0, none⟩ = some (.func (.func 148) #[] #[])) (hc : w.cell? ⟨c, 0, none⟩ = some (.int .i64 i)) :
    Calls Try.prog 151 #[.int .i64 f, .pointer (some ⟨b, 0, none⟩), .pointer (some ⟨c, 0, none⟩)] w fun e w' => e = .returned (.bool (!entryB f i)) ∧ w = w' := by
  go_enter Try.func151, Try.ntmps151
  go_wp2_with (go_at_call 148; refine (entry1_ok _ _ _).mono ?_; rintro e w' ⟨rfl, rfl⟩)
  go_ret
  exact ⟨rfl, rfl⟩

theorem shaped2_of (f i : Int) (r : Bool) (b c : Nat) (w : World) (hb : w.cell? ⟨b, 0, none⟩ = some (.func (.func 148) #[] #[])) (hc : w.cell? ⟨c, 0, none⟩ = some (.int .i64 i)) (hr : entryB f i = r) :
    Calls Try.prog 151 #[.int .i64 f, .pointer (some ⟨b, 0, none⟩), .pointer (some ⟨c, 0, none⟩)] w fun e w' => e = .returned (.bool (!r)) ∧ w = w' := hr ▸ shaped2_ok f i b c w hb hc

/-- Fields that are read. -/
def IntsAt (w : World) (A : Option Addr) (l : List Int) : Prop := (Kd.int .i64).C w A l.length l
theorem IntsAt.cell {w : World} {A : Option Addr} {bs : List Int} (h : IntsAt w A bs) (hp : 0 < bs.length) : ∃ ad, A = some ad ∧ ∀ j, j < bs.length → w.cell? (ad.add j) = some (.int .i64 (bs.getD j 0)) := by
  obtain ⟨_, _, h3⟩ := h
  obtain ⟨ad, he, hc⟩ := h3 hp
  refine ⟨ad, he, fun j hj => ?_⟩
  obtain ⟨c, h1, h2, h4⟩ := hc j bs[j] (List.getElem?_eq_getElem hj)
  have h2' : c = [.int .i64 bs[j]] := h2
  subst h2'
  have := h4 0 _ rfl
  rw [show (Kd.int .i64).sz = 1 from rfl, Nat.mul_one, Nat.add_zero] at this
  rw [this, List.getD_eq_getElem?_getD, List.getElem?_eq_getElem hj]
  rfl

/-- Where the first field that is no entry stands, from k on; -1: nowhere. -/
def noEntry (i : Int) : List Int → Nat → Int
  | [], _ => -1
  | f :: l, k => if entryB f i = true then noEntry i l (k + 1) else k

set_option maxHeartbeats 400000 in
set_option maxRecDepth 100000 in
theorem indexFunc_ok (i : Int) (b c cap : Nat) (A : Option Addr) (l : List Int) (w : World) (hA : IntsAt w A l) (hb : w.cell? ⟨b, 0, none⟩ = some (.func (.func 148) #[] #[])) (hc : w.cell? ⟨c, 0, none⟩ = some (.int .i64 i)) (hl : l.length ≤ 140737488351232) :
    Calls Try.prog 173 #[.slice A l.length cap, .func (.func 151) #[] #[.pointer (some ⟨b, 0, none⟩), .pointer (some ⟨c, 0, none⟩)]] w fun e w' => e = .returned (.int .i64 (noEntry i l 0)) ∧ w = w' := by
  have HA := Lib.hid hA
  clear hA
  go_enter Try.func173, Try.ntmps173
  go_wp2_with fail
  go_loop [8] (fun s => ∃ k : Nat, k ≤ l.length ∧ s = .int .i64 k ∧ Hid (noEntry i l 0 = noEntry i (l.drop k) k)) (fun s => l.length - (intOf s).toNat)
  case atStart => exact ⟨0, Nat.zero_le _, rfl, Lib.hid rfl⟩
  case round =>
    obtain ⟨k, hk, rfl, hN⟩ := hrel
    by_cases hlt : k < l.length
    · obtain ⟨ad, rfl, hcells⟩ := HA.out.cell (by omega)
      have hck := hcells k hlt
      have hd : l.drop k = l.getD k 0 :: l.drop (k + 1) := by
        rw [List.drop_eq_getElem_cons hlt, List.getD_eq_getElem?_getD, List.getElem?_eq_getElem hlt]
        rfl
      have hN' := hN.out
      rw [hd, noEntry] at hN'
      generalize l.getD k 0 = f at *
      have HN := Lib.hid hN'
      cases hE : entryB f i with
      | true =>
        have HE := Lib.hid hE
        clear hcells hd hN' hE hN
        go_wp2_with (go_at_call 151; refine (shaped2_of f i true b c _ hb hc HE.out).mono ?_; rintro e w' ⟨rfl, rfl⟩)
        go_round
        case rel => exact ⟨k + 1, by omega, by go_num, Lib.hid (by rw [HN.out, if_pos HE.out])⟩
        case measure => simp [intOf]; omega
      | false =>
        have HE := Lib.hid hE
        clear hcells hd hN' hE hN
        go_wp2_with (go_at_call 151; refine (shaped2_of f i false b c _ hb hc HE.out).mono ?_; rintro e w' ⟨rfl, rfl⟩)
        go_ret
        exact ⟨ret_int (by rw [HN.out, if_neg (by rw [HE.out]; exact Bool.false_ne_true)]), rfl⟩
    · have hN' := hN.out
      rw [List.drop_eq_nil_of_le (by omega), noEntry] at hN'
      have HN := Lib.hid hN'
      clear hN' hN
      go_wp2
      go_ret
      exact ⟨ret_int HN.out.symm, rfl⟩

theorem noEntry_all (i : Int) (l : List Int) : ∀ k, (noEntry i l k = -1 ∧ l.all (entryB · i) = true) ∨ (0 ≤ noEntry i l k ∧ l.all (entryB · i) = false) := by
  induction l with
  | nil => intro k; exact .inl ⟨rfl, rfl⟩
  | cons f l ih =>
    intro k
    rw [noEntry]
    cases hE : entryB f i with
    | true => simpa [hE] using ih (k + 1)
    | false => right; simp [hE]

set_option maxHeartbeats 400000 in
set_option maxRecDepth 100000 in
theorem containsFunc_ok (i : Int) (b c cap : Nat) (A : Option Addr) (l : List Int) (w : World) (hA : IntsAt w A l) (hb : w.cell? ⟨b, 0, none⟩ = some (.func (.func 148) #[] #[])) (hc : w.cell? ⟨c, 0, none⟩ = some (.int .i64 i)) (hl : l.length ≤ 140737488351232) :
    Calls Try.prog 150 #[.slice A l.length cap, .func (.func 151) #[] #[.pointer (some ⟨b, 0, none⟩), .pointer (some ⟨c, 0, none⟩)]] w fun e w' => e = .returned (.bool (!l.all (entryB · i))) ∧ w = w' := by
  have HA := Lib.hid hA
  rcases noEntry_all i l 0 with ⟨h1, h2⟩ | ⟨h1, h2⟩
  · have H1 := Lib.hid h1
    have H2 := Lib.hid h2
    clear hA h1 h2
    go_enter Try.func150, Try.ntmps150
    go_wp2_with (go_at_call 173; refine (indexFunc_ok i b c cap A l _ HA.out hb hc hl).mono ?_; rintro e w' ⟨rfl, rfl⟩; rw [H1.out])
    go_ret
    exact ⟨ret_bool (by rw [H2.out]; rfl), rfl⟩
  · have H2 := Lib.hid h2
    clear hA h2
    go_enter Try.func150, Try.ntmps150
    go_wp2_with (go_at_call 173; refine (indexFunc_ok i b c cap A l _ HA.out hb hc hl).mono ?_; rintro e w' ⟨rfl, rfl⟩)
    go_ret
    exact ⟨ret_bool (by rw [H2.out]; simp), rfl⟩

end Go.Proofs.Ytekoogedhmhpgaa

namespace Go.Proofs.Ytekoogedhmhpgaa
open Go.RowKit Go.Proofs.YtekoogedhmhpgaaW.PrintWords
set_option linter.unusedVariables false
structure S130 where
  f0 : Int
  f1 : Int
  f2 : Bool
  f3 : (List Int)
  f4 : (List Int)
  f5 : (List Int)
def z130 : S130 := ⟨(0 : Int), (0 : Int), false, ([] : List Int), ([] : List Int), ([] : List Int)⟩
def k130 : Kd S130 := Kd.iso (Kd.pair (Kd.int .i64) (Kd.pair (Kd.int .i64) (Kd.pair Kd.bool (Kd.pair (Kd.slice 3 (Kd.int .i64)) (Kd.pair (Kd.slice 3 (Kd.int .i64)) (Kd.slice 3 (Kd.int .i64))))))) (fun x : S130 => (x.f0, x.f1, x.f2, x.f3, x.f4, x.f5))
theorem k130_open {w : World} {x : S130} {cs : List Value} (h : k130.K w x cs) : ∃ A3 c3 A4 c4 A5 c5, cs = [.int .i64 x.f0, .int .i64 x.f1, .bool x.f2, .slice A3 x.f3.length c3, .slice A4 x.f4.length c4, .slice A5 x.f5.length c5] ∧ x.f3.length ≤ c3 ∧ (Kd.int .i64).C w A3 x.f3.length x.f3 ∧ x.f4.length ≤ c4 ∧ (Kd.int .i64).C w A4 x.f4.length x.f4 ∧ x.f5.length ≤ c5 ∧ (Kd.int .i64).C w A5 x.f5.length x.f5 := by
  obtain ⟨_, _, rfl, rfl, ⟨_, _, rfl, rfl, ⟨_, _, rfl, rfl, ⟨_, _, rfl, ⟨A3, c3, rfl, l3, g3⟩, ⟨_, _, rfl, ⟨A4, c4, rfl, l4, g4⟩, ⟨A5, c5, rfl, l5, g5⟩⟩⟩⟩⟩⟩ := h
  exact ⟨A3, c3, A4, c4, A5, c5, rfl, l3, g3, l4, g4, l5, g5⟩
theorem k130_openM {w : World} {base : Nat} {ok : Nat → Prop} {x : S130} {cs : List Value} (h : k130.M w base ok x cs) : ∃ v3 v4 v5, cs = [.int .i64 x.f0, .int .i64 x.f1, .bool x.f2, v3, v4, v5] ∧ (Kd.int .i64).R 3 w base ok v3 x.f3 ∧ (Kd.int .i64).R 3 w base ok v4 x.f4 ∧ (Kd.int .i64).R 3 w base ok v5 x.f5 := by
  obtain ⟨_, _, rfl, rfl, ⟨_, _, rfl, rfl, ⟨_, _, rfl, rfl, ⟨_, _, rfl, ⟨v3, rfl, g3⟩, ⟨_, _, rfl, ⟨v4, rfl, g4⟩, ⟨v5, rfl, g5⟩⟩⟩⟩⟩⟩ := h
  exact ⟨v3, v4, v5, rfl, g3, g4, g5⟩
theorem k130_mkM (w : World) (base : Nat) (ok : Nat → Prop) (x : S130) {v3 : Value} (g3 : (Kd.int .i64).R 3 w base ok v3 x.f3) {v4 : Value} (g4 : (Kd.int .i64).R 3 w base ok v4 x.f4) {v5 : Value} (g5 : (Kd.int .i64).R 3 w base ok v5 x.f5) : k130.M w base ok x [.int .i64 x.f0, .int .i64 x.f1, .bool x.f2, v3, v4, v5] := ⟨[.int .i64 x.f0], [.int .i64 x.f1, .bool x.f2, v3, v4, v5], rfl, rfl, ⟨[.int .i64 x.f1], [.bool x.f2, v3, v4, v5], rfl, rfl, ⟨[.bool x.f2], [v3, v4, v5], rfl, rfl, ⟨[v3], [v4, v5], rfl, ⟨v3, rfl, g3⟩, ⟨[v4], [v5], rfl, ⟨v4, rfl, g4⟩, ⟨v5, rfl, g5⟩⟩⟩⟩⟩⟩
def rd_T130 (xs : List S130) (i : Int) : S130 := xs.getD i.toNat z130
theorem at_T130 {w : World} {A : Option Addr} {n : Nat} {xs : List S130} (h : Kd.C k130 w A n xs) (i : Int) (h0 : 0 ≤ i) (h1 : i < n) : ∃ ad A3 c3 A4 c4 A5 c5, A = some ad ∧ w.cell? (ad.add (i.toNat * 6)) = some (.int .i64 (rd_T130 xs i).f0) ∧ w.cell? ⟨(ad.add (i.toNat * 6)).block, (ad.add (i.toNat * 6)).off + 1, none⟩ = some (.int .i64 (rd_T130 xs i).f1) ∧ w.cell? ⟨(ad.add (i.toNat * 6)).block, (ad.add (i.toNat * 6)).off + 2, none⟩ = some (.bool (rd_T130 xs i).f2) ∧ w.cell? ⟨(ad.add (i.toNat * 6)).block, (ad.add (i.toNat * 6)).off + 3, none⟩ = some (.slice A3 (rd_T130 xs i).f3.length c3) ∧ w.cell? ⟨(ad.add (i.toNat * 6)).block, (ad.add (i.toNat * 6)).off + 4, none⟩ = some (.slice A4 (rd_T130 xs i).f4.length c4) ∧ w.cell? ⟨(ad.add (i.toNat * 6)).block, (ad.add (i.toNat * 6)).off + 5, none⟩ = some (.slice A5 (rd_T130 xs i).f5.length c5) ∧ (rd_T130 xs i).f3.length ≤ c3 ∧ (Kd.int .i64).C w A3 (rd_T130 xs i).f3.length (rd_T130 xs i).f3 ∧ (rd_T130 xs i).f4.length ≤ c4 ∧ (Kd.int .i64).C w A4 (rd_T130 xs i).f4.length (rd_T130 xs i).f4 ∧ (rd_T130 xs i).f5.length ≤ c5 ∧ (Kd.int .i64).C w A5 (rd_T130 xs i).f5.length (rd_T130 xs i).f5 := by
  obtain ⟨ad, c, e, _, hK, hc0⟩ := Kd.C_get h z130 i h0 h1
  have hc : ∀ j u, c[j]? = some u → w.cell? (ad.add (i.toNat * 6 + j)) = some u := hc0
  obtain ⟨A3, c3, A4, c4, A5, c5, rfl, l3, g3, l4, g4, l5, g5⟩ := k130_open hK
  exact ⟨ad, A3, c3, A4, c4, A5, c5, e, hc 0 _ rfl, by rw [← add_field _ _ 1 (by omega)]; exact hc 1 _ rfl, by rw [← add_field _ _ 2 (by omega)]; exact hc 2 _ rfl, by rw [← add_field _ _ 3 (by omega)]; exact hc 3 _ rfl, by rw [← add_field _ _ 4 (by omega)]; exact hc 4 _ rfl, by rw [← add_field _ _ 5 (by omega)]; exact hc 5 _ rfl, l3, g3, l4, g4, l5, g5⟩

end Go.Proofs.Ytekoogedhmhpgaa

namespace Go.Proofs.Ytekoogedhmhpgaa
open Go.RowKit Go.Proofs.YtekoogedhmhpgaaW.PrintWords Go.Proofs.Ytekoogedhmhpgaa.Q

/-- May an entry stand at i among n? -/
def shapedB (K E N : Int) (F : List Int) (i n : Int) : Bool :=
  if (1 ≤ K ∧ K ≤ 10) ∨ K = 15 then decide (E = 0 ∧ N = 0 ∧ F.length = 0)
  else if K = 11 ∨ K = 14 then entryB E n && decide (N = 0 ∧ F.length = 0)
  else if K = 12 then entryB E i && decide (0 ≤ N ∧ N ≤ 65536 ∧ F.length = 0)
  else if K = 13 then decide (E = 0 ∧ N = 0 ∧ F.length ≤ 16) && F.all (entryB · i)
  else false

theorem scalar_of (k : Int) (b : Bool) (w : World) (h : decide (1 ≤ k ∧ k ≤ 11) = b) : Calls Try.prog 149 #[.int .i64 k] w fun e w' => e = .returned (.bool b) ∧ w = w' := h ▸ scalar_ok k w
theorem entry1_of (k n : Int) (b : Bool) (w : World) (h : entryB k n = b) : Calls Try.prog 148 #[.int .i64 k, .int .i64 n] w fun e w' => e = .returned (.bool b) ∧ w = w' := h ▸ entry1_ok k n w
theorem containsFunc_of (i : Int) (r : Bool) (b c cap : Nat) (A : Option Addr) (l : List Int) (w : World) (hA : IntsAt w A l) (hb : w.cell? ⟨b, 0, none⟩ = some (.func (.func 148) #[] #[])) (hc : w.cell? ⟨c, 0, none⟩ = some (.int .i64 i)) (hl : l.length ≤ 140737488351232) (hr : l.all (entryB · i) = r) :
    Calls Try.prog 150 #[.slice A l.length cap, .func (.func 151) #[] #[.pointer (some ⟨b, 0, none⟩), .pointer (some ⟨c, 0, none⟩)]] w fun e w' => e = .returned (.bool (!r)) ∧ w = w' := hr ▸ containsFunc_ok i b c cap A l w hA hb hc hl
theorem cell_last (w : World) (v : Value) (T : TypeId) : (w.alloc (.cells #[v] T)).cell? ⟨w.heap.size, 0, none⟩ = some v := by simp
theorem cell_old {w : World} {o : Obj} {ad : Addr} {v : Value} (h : w.cell? ad = some v) : (w.alloc o).cell? ad = some v := pw_cell_below ((Below.refl _ _).alloc (Nat.le_refl _) o) h
theorem cell3c (w : World) (a b : Obj) (v : Value) (T : TypeId) : (((w.alloc a).alloc b).alloc (.cells #[v] T)).cell? ⟨w.heap.size + 1 + 1, 0, none⟩ = some v := by
  have h := cell_last ((w.alloc a).alloc b) v T
  simpa using h
theorem cell3b (w : World) (a c : Obj) (v : Value) (T : TypeId) : (((w.alloc a).alloc (.cells #[v] T)).alloc c).cell? ⟨w.heap.size + 1, 0, none⟩ = some v := by
  exact cell_old (by simp)
theorem below3 (w : World) (a b c : Obj) : Below w.heap.size w (((w.alloc a).alloc b).alloc c) :=
  (((Below.refl _ _).alloc (Nat.le_refl _) _).alloc (by simp) _).alloc (by simp; omega) _

set_option maxHeartbeats 1600000 in
set_option maxRecDepth 100000 in
theorem shaped_scalar (K E N i n : Int) (F : List Int) (A : Option Addr) (c : Nat) (w : World) (hA : IntsAt w A F) (_hl : F.length ≤ 140737488351232) (h : 1 ≤ K ∧ K ≤ 10) :
    Calls Try.prog 119 #[.agg #[.int .i64 K, .int .i64 E, .int .i64 N, .slice A F.length c], .int .i64 i, .int .i64 n] w fun e w' => e = .returned (.bool (shapedB K E N F i n)) ∧ Below w.heap.size w w' := by
  have hv : shapedB K E N F i n = decide (E = 0 ∧ N = 0 ∧ F.length = 0) := by unfold shapedB; rw [if_pos (Or.inl h)]
  have HV := Lib.hid hv
  have HA := Lib.hid hA
  have hs : decide (1 ≤ K ∧ K ≤ 11) = true := by simp; omega
  have HS := Lib.hid hs
  have h11 : (K == 11) = false := by rw [beq_eq_false_iff_ne]; omega
  have h12 : (K == 12) = false := by rw [beq_eq_false_iff_ne]; omega
  have h13 : (K == 13) = false := by rw [beq_eq_false_iff_ne]; omega
  have h14 : (K == 14) = false := by rw [beq_eq_false_iff_ne]; omega
  have h15 : (K == 15) = false := by rw [beq_eq_false_iff_ne]; omega
  have n11 : (K != 11) = true := by rw [bne_iff_ne]; omega
  clear h hs
  clear hv hA
  go_enter Try.func119, Try.ntmps119
  go_wp2_with (first | (go_at_call 149; refine (scalar_of _ _ _ HS.out).mono ?_; rintro e w' ⟨rfl, rfl⟩))
  all_goals
    go_ret
    exact ⟨ret_bool (by first | (rw [HV.out]; done) | (rw [HV.out]; rw [Bool.eq_iff_iff]; simp; done) | (rw [HV.out]; rw [Bool.eq_iff_iff]; simp; omega) | (rw [HV.out]; rw [Bool.eq_iff_iff]; simp [*]) | (have hv := HV.out; have hE : E = 0 := by assumption; have hN : N = 0 := by assumption; rw [hE, hN] at hv; rw [hv])), below3 _ _ _ _⟩

set_option maxHeartbeats 1600000 in
set_option maxRecDepth 100000 in
theorem shaped_string (K E N i n : Int) (F : List Int) (A : Option Addr) (c : Nat) (w : World) (hA : IntsAt w A F) (_hl : F.length ≤ 140737488351232) (h : K = 15) :
    Calls Try.prog 119 #[.agg #[.int .i64 K, .int .i64 E, .int .i64 N, .slice A F.length c], .int .i64 i, .int .i64 n] w fun e w' => e = .returned (.bool (shapedB K E N F i n)) ∧ Below w.heap.size w w' := by
  have hv : shapedB K E N F i n = decide (E = 0 ∧ N = 0 ∧ F.length = 0) := by unfold shapedB; rw [if_pos (Or.inr h)]
  have HV := Lib.hid hv
  have HA := Lib.hid hA
  have hs : decide (1 ≤ K ∧ K ≤ 11) = false := by simp; omega
  have HS := Lib.hid hs
  have h11 : (K == 11) = false := by rw [beq_eq_false_iff_ne]; omega
  have h12 : (K == 12) = false := by rw [beq_eq_false_iff_ne]; omega
  have h13 : (K == 13) = false := by rw [beq_eq_false_iff_ne]; omega
  have h14 : (K == 14) = false := by rw [beq_eq_false_iff_ne]; omega
  have h15 : (K == 15) = true := by rw [beq_iff_eq]; omega
  clear h hs
  clear hv hA
  go_enter Try.func119, Try.ntmps119
  go_wp2_with (first | (go_at_call 149; refine (scalar_of _ _ _ HS.out).mono ?_; rintro e w' ⟨rfl, rfl⟩))
  all_goals
    go_ret
    exact ⟨ret_bool (by first | (rw [HV.out]; done) | (rw [HV.out]; rw [Bool.eq_iff_iff]; simp; done) | (rw [HV.out]; rw [Bool.eq_iff_iff]; simp; omega) | (rw [HV.out]; rw [Bool.eq_iff_iff]; simp [*]) | (have hv := HV.out; have hE : E = 0 := by assumption; have hN : N = 0 := by assumption; rw [hE, hN] at hv; rw [hv])), below3 _ _ _ _⟩

set_option maxHeartbeats 1600000 in
set_option maxRecDepth 100000 in
theorem shaped_ptr_true (K E N i n : Int) (F : List Int) (A : Option Addr) (c : Nat) (w : World) (hA : IntsAt w A F) (_hl : F.length ≤ 140737488351232) (h : K = 11) (he : entryB E n = true) :
    Calls Try.prog 119 #[.agg #[.int .i64 K, .int .i64 E, .int .i64 N, .slice A F.length c], .int .i64 i, .int .i64 n] w fun e w' => e = .returned (.bool (shapedB K E N F i n)) ∧ Below w.heap.size w w' := by
  have hv : shapedB K E N F i n = (entryB E n && decide (N = 0 ∧ F.length = 0)) := by unfold shapedB; rw [if_neg (by omega), if_pos (by omega)]
  have HV := Lib.hid hv
  have HA := Lib.hid hA
  have hs : decide (1 ≤ K ∧ K ≤ 11) = true := by simp; omega
  have HS := Lib.hid hs
  have h11 : (K == 11) = true := by rw [beq_iff_eq]; omega
  have h12 : (K == 12) = false := by rw [beq_eq_false_iff_ne]; omega
  have h13 : (K == 13) = false := by rw [beq_eq_false_iff_ne]; omega
  have h14 : (K == 14) = false := by rw [beq_eq_false_iff_ne]; omega
  have h15 : (K == 15) = false := by rw [beq_eq_false_iff_ne]; omega
  have n11 : (K != 11) = false := by rw [bne_eq_false_iff_eq]; omega
  have HE := Lib.hid he
  clear h hs he
  clear hv hA
  go_enter Try.func119, Try.ntmps119
  go_wp2_with (first | (go_at_call 149; refine (scalar_of _ _ _ HS.out).mono ?_; rintro e w' ⟨rfl, rfl⟩) | (go_at_call 148; refine (entry1_of _ _ _ _ HE.out).mono ?_; rintro e w' ⟨rfl, rfl⟩))
  all_goals
    go_ret
    exact ⟨ret_bool (by first | (rw [HV.out]; done) | (rw [HV.out]; rw [HE.out]; rw [Bool.eq_iff_iff]; simp; done) | (rw [HV.out]; rw [HE.out]; rw [Bool.eq_iff_iff]; simp; omega) | (rw [HV.out]; rw [HE.out]; rw [Bool.eq_iff_iff]; simp [*]) | (have hv := HV.out; have hE : E = 0 := by assumption; have hN : N = 0 := by assumption; rw [hE, hN] at hv; rw [hv])), below3 _ _ _ _⟩

set_option maxHeartbeats 1600000 in
set_option maxRecDepth 100000 in
theorem shaped_ptr_false (K E N i n : Int) (F : List Int) (A : Option Addr) (c : Nat) (w : World) (hA : IntsAt w A F) (_hl : F.length ≤ 140737488351232) (h : K = 11) (he : entryB E n = false) :
    Calls Try.prog 119 #[.agg #[.int .i64 K, .int .i64 E, .int .i64 N, .slice A F.length c], .int .i64 i, .int .i64 n] w fun e w' => e = .returned (.bool (shapedB K E N F i n)) ∧ Below w.heap.size w w' := by
  have hv : shapedB K E N F i n = (entryB E n && decide (N = 0 ∧ F.length = 0)) := by unfold shapedB; rw [if_neg (by omega), if_pos (by omega)]
  have HV := Lib.hid hv
  have HA := Lib.hid hA
  have hs : decide (1 ≤ K ∧ K ≤ 11) = true := by simp; omega
  have HS := Lib.hid hs
  have h11 : (K == 11) = true := by rw [beq_iff_eq]; omega
  have h12 : (K == 12) = false := by rw [beq_eq_false_iff_ne]; omega
  have h13 : (K == 13) = false := by rw [beq_eq_false_iff_ne]; omega
  have h14 : (K == 14) = false := by rw [beq_eq_false_iff_ne]; omega
  have h15 : (K == 15) = false := by rw [beq_eq_false_iff_ne]; omega
  have n11 : (K != 11) = false := by rw [bne_eq_false_iff_eq]; omega
  have HE := Lib.hid he
  clear h hs he
  clear hv hA
  go_enter Try.func119, Try.ntmps119
  go_wp2_with (first | (go_at_call 149; refine (scalar_of _ _ _ HS.out).mono ?_; rintro e w' ⟨rfl, rfl⟩) | (go_at_call 148; refine (entry1_of _ _ _ _ HE.out).mono ?_; rintro e w' ⟨rfl, rfl⟩))
  all_goals
    go_ret
    exact ⟨ret_bool (by first | (rw [HV.out]; done) | (rw [HV.out]; rw [HE.out]; rw [Bool.eq_iff_iff]; simp; done) | (rw [HV.out]; rw [HE.out]; rw [Bool.eq_iff_iff]; simp; omega) | (rw [HV.out]; rw [HE.out]; rw [Bool.eq_iff_iff]; simp [*]) | (have hv := HV.out; have hE : E = 0 := by assumption; have hN : N = 0 := by assumption; rw [hE, hN] at hv; rw [hv])), below3 _ _ _ _⟩

set_option maxHeartbeats 1600000 in
set_option maxRecDepth 100000 in
theorem shaped_slice_true (K E N i n : Int) (F : List Int) (A : Option Addr) (c : Nat) (w : World) (hA : IntsAt w A F) (_hl : F.length ≤ 140737488351232) (h : K = 14) (he : entryB E n = true) :
    Calls Try.prog 119 #[.agg #[.int .i64 K, .int .i64 E, .int .i64 N, .slice A F.length c], .int .i64 i, .int .i64 n] w fun e w' => e = .returned (.bool (shapedB K E N F i n)) ∧ Below w.heap.size w w' := by
  have hv : shapedB K E N F i n = (entryB E n && decide (N = 0 ∧ F.length = 0)) := by unfold shapedB; rw [if_neg (by omega), if_pos (by omega)]
  have HV := Lib.hid hv
  have HA := Lib.hid hA
  have hs : decide (1 ≤ K ∧ K ≤ 11) = false := by simp; omega
  have HS := Lib.hid hs
  have h11 : (K == 11) = false := by rw [beq_eq_false_iff_ne]; omega
  have h12 : (K == 12) = false := by rw [beq_eq_false_iff_ne]; omega
  have h13 : (K == 13) = false := by rw [beq_eq_false_iff_ne]; omega
  have h14 : (K == 14) = true := by rw [beq_iff_eq]; omega
  have h15 : (K == 15) = false := by rw [beq_eq_false_iff_ne]; omega
  have HE := Lib.hid he
  clear h hs he
  clear hv hA
  go_enter Try.func119, Try.ntmps119
  go_wp2_with (first | (go_at_call 149; refine (scalar_of _ _ _ HS.out).mono ?_; rintro e w' ⟨rfl, rfl⟩) | (go_at_call 148; refine (entry1_of _ _ _ _ HE.out).mono ?_; rintro e w' ⟨rfl, rfl⟩))
  all_goals
    go_ret
    exact ⟨ret_bool (by first | (rw [HV.out]; done) | (rw [HV.out]; rw [HE.out]; rw [Bool.eq_iff_iff]; simp; done) | (rw [HV.out]; rw [HE.out]; rw [Bool.eq_iff_iff]; simp; omega) | (rw [HV.out]; rw [HE.out]; rw [Bool.eq_iff_iff]; simp [*]) | (have hv := HV.out; have hE : E = 0 := by assumption; have hN : N = 0 := by assumption; rw [hE, hN] at hv; rw [hv])), below3 _ _ _ _⟩

set_option maxHeartbeats 1600000 in
set_option maxRecDepth 100000 in
theorem shaped_slice_false (K E N i n : Int) (F : List Int) (A : Option Addr) (c : Nat) (w : World) (hA : IntsAt w A F) (_hl : F.length ≤ 140737488351232) (h : K = 14) (he : entryB E n = false) :
    Calls Try.prog 119 #[.agg #[.int .i64 K, .int .i64 E, .int .i64 N, .slice A F.length c], .int .i64 i, .int .i64 n] w fun e w' => e = .returned (.bool (shapedB K E N F i n)) ∧ Below w.heap.size w w' := by
  have hv : shapedB K E N F i n = (entryB E n && decide (N = 0 ∧ F.length = 0)) := by unfold shapedB; rw [if_neg (by omega), if_pos (by omega)]
  have HV := Lib.hid hv
  have HA := Lib.hid hA
  have hs : decide (1 ≤ K ∧ K ≤ 11) = false := by simp; omega
  have HS := Lib.hid hs
  have h11 : (K == 11) = false := by rw [beq_eq_false_iff_ne]; omega
  have h12 : (K == 12) = false := by rw [beq_eq_false_iff_ne]; omega
  have h13 : (K == 13) = false := by rw [beq_eq_false_iff_ne]; omega
  have h14 : (K == 14) = true := by rw [beq_iff_eq]; omega
  have h15 : (K == 15) = false := by rw [beq_eq_false_iff_ne]; omega
  have HE := Lib.hid he
  clear h hs he
  clear hv hA
  go_enter Try.func119, Try.ntmps119
  go_wp2_with (first | (go_at_call 149; refine (scalar_of _ _ _ HS.out).mono ?_; rintro e w' ⟨rfl, rfl⟩) | (go_at_call 148; refine (entry1_of _ _ _ _ HE.out).mono ?_; rintro e w' ⟨rfl, rfl⟩))
  all_goals
    go_ret
    exact ⟨ret_bool (by first | (rw [HV.out]; done) | (rw [HV.out]; rw [HE.out]; rw [Bool.eq_iff_iff]; simp; done) | (rw [HV.out]; rw [HE.out]; rw [Bool.eq_iff_iff]; simp; omega) | (rw [HV.out]; rw [HE.out]; rw [Bool.eq_iff_iff]; simp [*]) | (have hv := HV.out; have hE : E = 0 := by assumption; have hN : N = 0 := by assumption; rw [hE, hN] at hv; rw [hv])), below3 _ _ _ _⟩

set_option maxHeartbeats 1600000 in
set_option maxRecDepth 100000 in
theorem shaped_array_true (K E N i n : Int) (F : List Int) (A : Option Addr) (c : Nat) (w : World) (hA : IntsAt w A F) (_hl : F.length ≤ 140737488351232) (h : K = 12) (he : entryB E i = true) :
    Calls Try.prog 119 #[.agg #[.int .i64 K, .int .i64 E, .int .i64 N, .slice A F.length c], .int .i64 i, .int .i64 n] w fun e w' => e = .returned (.bool (shapedB K E N F i n)) ∧ Below w.heap.size w w' := by
  have hv : shapedB K E N F i n = (entryB E i && decide (0 ≤ N ∧ N ≤ 65536 ∧ F.length = 0)) := by unfold shapedB; rw [if_neg (by omega), if_neg (by omega), if_pos h]
  have HV := Lib.hid hv
  have HA := Lib.hid hA
  have hs : decide (1 ≤ K ∧ K ≤ 11) = false := by simp; omega
  have HS := Lib.hid hs
  have h11 : (K == 11) = false := by rw [beq_eq_false_iff_ne]; omega
  have h12 : (K == 12) = true := by rw [beq_iff_eq]; omega
  have h13 : (K == 13) = false := by rw [beq_eq_false_iff_ne]; omega
  have h14 : (K == 14) = false := by rw [beq_eq_false_iff_ne]; omega
  have h15 : (K == 15) = false := by rw [beq_eq_false_iff_ne]; omega
  have HE := Lib.hid he
  clear h hs he
  clear hv hA
  go_enter Try.func119, Try.ntmps119
  go_wp2_with (first | (go_at_call 149; refine (scalar_of _ _ _ HS.out).mono ?_; rintro e w' ⟨rfl, rfl⟩) | (go_at_call 148; refine (entry1_of _ _ _ _ HE.out).mono ?_; rintro e w' ⟨rfl, rfl⟩))
  all_goals
    go_ret
    exact ⟨ret_bool (by first | (rw [HV.out]; done) | (rw [HV.out]; rw [HE.out]; rw [Bool.eq_iff_iff]; simp; done) | (rw [HV.out]; rw [HE.out]; rw [Bool.eq_iff_iff]; simp; omega) | (rw [HV.out]; rw [HE.out]; rw [Bool.eq_iff_iff]; simp [*]) | (have hv := HV.out; have hE : E = 0 := by assumption; have hN : N = 0 := by assumption; rw [hE, hN] at hv; rw [hv])), below3 _ _ _ _⟩

set_option maxHeartbeats 1600000 in
set_option maxRecDepth 100000 in
theorem shaped_struct_true (i n : Int) (F : List Int) (A : Option Addr) (c : Nat) (w : World) (hA : IntsAt w A F) (hl : F.length ≤ 140737488351232) (h16 : F.length ≤ 16) (he : F.all (entryB · i) = true) :
    Calls Try.prog 119 #[.agg #[.int .i64 13, .int .i64 0, .int .i64 0, .slice A F.length c], .int .i64 i, .int .i64 n] w fun e w' => e = .returned (.bool true) ∧ Below w.heap.size w w' := by
  have HA := Lib.hid hA
  have HE := Lib.hid he
  have HS := Lib.hid (show decide (1 ≤ (13 : Int) ∧ (13 : Int) ≤ 11) = false from rfl)
  clear hA he
  go_enter Try.func119, Try.ntmps119
  go_wp2_with (first | (go_at_call 149; refine (scalar_of _ _ _ HS.out).mono ?_; rintro e w' ⟨rfl, rfl⟩))
  refine Calls.mono (containsFunc_of i true (w.heap.size + 1 + 1) (w.heap.size + 1) c A F _ ?_ ?_ ?_ hl HE.out) ?_
  · exact Kd.C_below HA.out (below3 w _ _ _)
  · exact cell3c _ _ _ _ _
  · exact cell3b _ _ _ _ _
  rintro e w' ⟨rfl, rfl⟩
  go_wp2
  go_ret
  exact ⟨rfl, below3 _ _ _ _⟩

set_option maxHeartbeats 1600000 in
set_option maxRecDepth 100000 in
theorem shaped_array_false (K E N i n : Int) (F : List Int) (A : Option Addr) (c : Nat) (w : World) (hA : IntsAt w A F) (_hl : F.length ≤ 140737488351232) (h : K = 12) (he : entryB E i = false) :
    Calls Try.prog 119 #[.agg #[.int .i64 K, .int .i64 E, .int .i64 N, .slice A F.length c], .int .i64 i, .int .i64 n] w fun e w' => e = .returned (.bool (shapedB K E N F i n)) ∧ Below w.heap.size w w' := by
  have hv : shapedB K E N F i n = (entryB E i && decide (0 ≤ N ∧ N ≤ 65536 ∧ F.length = 0)) := by unfold shapedB; rw [if_neg (by omega), if_neg (by omega), if_pos h]
  have HV := Lib.hid hv
  have HA := Lib.hid hA
  have hs : decide (1 ≤ K ∧ K ≤ 11) = false := by simp; omega
  have HS := Lib.hid hs
  have h11 : (K == 11) = false := by rw [beq_eq_false_iff_ne]; omega
  have h12 : (K == 12) = true := by rw [beq_iff_eq]; omega
  have h13 : (K == 13) = false := by rw [beq_eq_false_iff_ne]; omega
  have h14 : (K == 14) = false := by rw [beq_eq_false_iff_ne]; omega
  have h15 : (K == 15) = false := by rw [beq_eq_false_iff_ne]; omega
  have HE := Lib.hid he
  clear h hs he
  clear hv hA
  go_enter Try.func119, Try.ntmps119
  go_wp2_with (first | (go_at_call 149; refine (scalar_of _ _ _ HS.out).mono ?_; rintro e w' ⟨rfl, rfl⟩) | (go_at_call 148; refine (entry1_of _ _ _ _ HE.out).mono ?_; rintro e w' ⟨rfl, rfl⟩))
  all_goals
    go_ret
    exact ⟨ret_bool (by first | (rw [HV.out]; done) | (rw [HV.out]; rw [HE.out]; rw [Bool.eq_iff_iff]; simp; done) | (rw [HV.out]; rw [HE.out]; rw [Bool.eq_iff_iff]; simp; omega) | (rw [HV.out]; rw [HE.out]; rw [Bool.eq_iff_iff]; simp [*]) | (have hv := HV.out; have hE : E = 0 := by assumption; have hN : N = 0 := by assumption; rw [hE, hN] at hv; rw [hv])), below3 _ _ _ _⟩

set_option maxHeartbeats 1600000 in
set_option maxRecDepth 100000 in
theorem shaped_struct_false (i n : Int) (F : List Int) (A : Option Addr) (c : Nat) (w : World) (hA : IntsAt w A F) (hl : F.length ≤ 140737488351232) (h16 : F.length ≤ 16) (he : F.all (entryB · i) = false) :
    Calls Try.prog 119 #[.agg #[.int .i64 13, .int .i64 0, .int .i64 0, .slice A F.length c], .int .i64 i, .int .i64 n] w fun e w' => e = .returned (.bool false) ∧ Below w.heap.size w w' := by
  have HA := Lib.hid hA
  have HE := Lib.hid he
  have HS := Lib.hid (show decide (1 ≤ (13 : Int) ∧ (13 : Int) ≤ 11) = false from rfl)
  clear hA he
  go_enter Try.func119, Try.ntmps119
  go_wp2_with (first | (go_at_call 149; refine (scalar_of _ _ _ HS.out).mono ?_; rintro e w' ⟨rfl, rfl⟩))
  refine Calls.mono (containsFunc_of i false (w.heap.size + 1 + 1) (w.heap.size + 1) c A F _ ?_ ?_ ?_ hl HE.out) ?_
  · exact Kd.C_below HA.out (below3 w _ _ _)
  · exact cell3c _ _ _ _ _
  · exact cell3b _ _ _ _ _
  rintro e w' ⟨rfl, rfl⟩
  go_wp2
  go_ret
  exact ⟨rfl, below3 _ _ _ _⟩

set_option maxHeartbeats 1600000 in
set_option maxRecDepth 100000 in
theorem shaped_struct_no0 (E N i n : Int) (F : List Int) (A : Option Addr) (c : Nat) (w : World) (hE : E ≠ 0) :
    Calls Try.prog 119 #[.agg #[.int .i64 13, .int .i64 E, .int .i64 N, .slice A F.length c], .int .i64 i, .int .i64 n] w fun e w' => e = .returned (.bool false) ∧ Below w.heap.size w w' := by
  have HS := Lib.hid (show decide (1 ≤ (13 : Int) ∧ (13 : Int) ≤ 11) = false from rfl)
  have hE0 : (E == 0) = false := by rw [beq_eq_false_iff_ne]; exact hE
  go_enter Try.func119, Try.ntmps119
  go_wp2_with (first | (go_at_call 149; refine (scalar_of _ _ _ HS.out).mono ?_; rintro e w' ⟨rfl, rfl⟩))
  all_goals (try (exfalso; omega))
  all_goals
    go_ret
    exact ⟨rfl, below3 _ _ _ _⟩

set_option maxHeartbeats 1600000 in
set_option maxRecDepth 100000 in
theorem shaped_struct_no1 (N i n : Int) (F : List Int) (A : Option Addr) (c : Nat) (w : World) (hN : N ≠ 0) :
    Calls Try.prog 119 #[.agg #[.int .i64 13, .int .i64 0, .int .i64 N, .slice A F.length c], .int .i64 i, .int .i64 n] w fun e w' => e = .returned (.bool false) ∧ Below w.heap.size w w' := by
  have HS := Lib.hid (show decide (1 ≤ (13 : Int) ∧ (13 : Int) ≤ 11) = false from rfl)
  have hN0 : (N == 0) = false := by rw [beq_eq_false_iff_ne]; exact hN
  go_enter Try.func119, Try.ntmps119
  go_wp2_with (first | (go_at_call 149; refine (scalar_of _ _ _ HS.out).mono ?_; rintro e w' ⟨rfl, rfl⟩))
  all_goals (try (exfalso; omega))
  all_goals
    go_ret
    exact ⟨rfl, below3 _ _ _ _⟩

set_option maxHeartbeats 1600000 in
set_option maxRecDepth 100000 in
theorem shaped_struct_no2 (i n : Int) (F : List Int) (A : Option Addr) (c : Nat) (w : World) (h16 : 16 < F.length) :
    Calls Try.prog 119 #[.agg #[.int .i64 13, .int .i64 0, .int .i64 0, .slice A F.length c], .int .i64 i, .int .i64 n] w fun e w' => e = .returned (.bool false) ∧ Below w.heap.size w w' := by
  have HS := Lib.hid (show decide (1 ≤ (13 : Int) ∧ (13 : Int) ≤ 11) = false from rfl)
  have h16' : ¬ (F.length : Int) ≤ 16 := by omega
  go_enter Try.func119, Try.ntmps119
  go_wp2_with (first | (go_at_call 149; refine (scalar_of _ _ _ HS.out).mono ?_; rintro e w' ⟨rfl, rfl⟩))
  all_goals (try (exfalso; omega))
  all_goals
    go_ret
    exact ⟨rfl, below3 _ _ _ _⟩

set_option maxHeartbeats 1600000 in
set_option maxRecDepth 100000 in
theorem shaped_none (K E N i n : Int) (F : List Int) (A : Option Addr) (c : Nat) (w : World) (hA : IntsAt w A F) (_hl : F.length ≤ 140737488351232) (h : K < 1 ∨ 15 < K) :
    Calls Try.prog 119 #[.agg #[.int .i64 K, .int .i64 E, .int .i64 N, .slice A F.length c], .int .i64 i, .int .i64 n] w fun e w' => e = .returned (.bool (shapedB K E N F i n)) ∧ Below w.heap.size w w' := by
  have hv : shapedB K E N F i n = false := by unfold shapedB; rw [if_neg (by omega), if_neg (by omega), if_neg (by omega), if_neg (by omega)]
  have HV := Lib.hid hv
  have HA := Lib.hid hA
  have hs : decide (1 ≤ K ∧ K ≤ 11) = false := by simp; omega
  have HS := Lib.hid hs
  have h11 : (K == 11) = false := by rw [beq_eq_false_iff_ne]; omega
  have h12 : (K == 12) = false := by rw [beq_eq_false_iff_ne]; omega
  have h13 : (K == 13) = false := by rw [beq_eq_false_iff_ne]; omega
  have h14 : (K == 14) = false := by rw [beq_eq_false_iff_ne]; omega
  have h15 : (K == 15) = false := by rw [beq_eq_false_iff_ne]; omega
  clear h hs
  clear hv hA
  go_enter Try.func119, Try.ntmps119
  go_wp2_with (first | (go_at_call 149; refine (scalar_of _ _ _ HS.out).mono ?_; rintro e w' ⟨rfl, rfl⟩))
  all_goals
    go_ret
    exact ⟨ret_bool (by first | (rw [HV.out]; done) | (rw [HV.out]; rw [Bool.eq_iff_iff]; simp; done) | (rw [HV.out]; rw [Bool.eq_iff_iff]; simp; omega) | (rw [HV.out]; rw [Bool.eq_iff_iff]; simp [*]) | (have hv := HV.out; have hE : E = 0 := by assumption; have hN : N = 0 := by assumption; rw [hE, hN] at hv; rw [hv])), below3 _ _ _ _⟩

theorem shaped_ok (K E N i n : Int) (F : List Int) (A : Option Addr) (c : Nat) (w : World) (hA : IntsAt w A F) (hl : F.length ≤ 140737488351232) :
    Calls Try.prog 119 #[.agg #[.int .i64 K, .int .i64 E, .int .i64 N, .slice A F.length c], .int .i64 i, .int .i64 n] w fun e w' => e = .returned (.bool (shapedB K E N F i n)) ∧ Below w.heap.size w w' := by
  by_cases h1 : 1 ≤ K ∧ K ≤ 10
  · exact shaped_scalar K E N i n F A c w hA hl h1
  · by_cases h2 : K = 15
    · exact shaped_string K E N i n F A c w hA hl h2
    · by_cases h3 : K = 11
      · cases h : entryB E n
        · exact shaped_ptr_false K E N i n F A c w hA hl h3 h
        · exact shaped_ptr_true K E N i n F A c w hA hl h3 h
      · by_cases h4 : K = 14
        · cases h : entryB E n
          · exact shaped_slice_false K E N i n F A c w hA hl h4 h
          · exact shaped_slice_true K E N i n F A c w hA hl h4 h
        · by_cases h5 : K = 12
          · cases h : entryB E i
            · exact shaped_array_false K E N i n F A c w hA hl h5 h
            · exact shaped_array_true K E N i n F A c w hA hl h5 h
          · by_cases h6 : K = 13
            · by_cases hq : E = 0 ∧ N = 0 ∧ F.length ≤ 16
              · obtain ⟨rfl, rfl, hq⟩ := hq
                subst h6
                have hv : shapedB 13 0 0 F i n = F.all (entryB · i) := by unfold shapedB; simp [hq]
                rw [hv]
                cases h : F.all (entryB · i)
                · exact shaped_struct_false i n F A c w hA hl hq h
                · exact shaped_struct_true i n F A c w hA hl hq h
              · subst h6
                have hv : shapedB 13 E N F i n = false := by unfold shapedB; simp; omega
                rw [hv]
                by_cases hE : E = 0
                · subst hE
                  by_cases hN : N = 0
                  · subst hN
                    exact shaped_struct_no2 i n F A c w (by omega)
                  · exact shaped_struct_no1 N i n F A c w hN
                · exact shaped_struct_no0 E N i n F A c w hE
            · exact shaped_none K E N i n F A c w hA hl (by omega)

end Go.Proofs.Ytekoogedhmhpgaa

namespace Go.Proofs.Ytekoogedhmhpgaa
open Go.RowKit Go.Proofs.YtekoogedhmhpgaaW.PrintWords

/-- A lie is within bounds. -/
structure LieOk (x : S130) : Prop where
  size : 0 ≤ x.f0 ∧ x.f0 ≤ 65536
  align : x.f1 = 1 ∨ x.f1 = 2 ∨ x.f1 = 4 ∨ x.f1 = 8
  len : x.f3.length = x.f4.length
  kinds : x.f3.length ≤ 16
  at_ : ∀ a ∈ x.f4, 0 ≤ a ∧ a ≤ 65536

set_option maxHeartbeats 400000 in
set_option maxRecDepth 100000 in
theorem found_ok (lb cap : Nat) (A : Option Addr) (ls : List S130) (i : Int) (w w0 : World) (hw : Below w0.heap.size w0 w) (hb : w.cell? ⟨lb, 0, none⟩ = some (.slice A ls.length cap)) (hl : Kd.C k130 w0 A ls.length ls) (h0 : 0 ≤ i) (h1 : i < ls.length) :
    Calls Try.prog 120 #[.int .i64 i, .pointer (some ⟨lb, 0, none⟩)] w fun e w' => (∃ A3 c3 A4 c4 A5 c5, e = .returned (.agg #[.int .i64 (rd_T130 ls i).f0, .int .i64 (rd_T130 ls i).f1, .bool (rd_T130 ls i).f2, .slice A3 (rd_T130 ls i).f3.length c3, .slice A4 (rd_T130 ls i).f4.length c4, .slice A5 (rd_T130 ls i).f5.length c5]) ∧
      IntsAt w0 A3 (rd_T130 ls i).f3 ∧ IntsAt w0 A4 (rd_T130 ls i).f4) ∧ Below w.heap.size w w' := by
  obtain ⟨n, rfl⟩ : ∃ n : Nat, i = n := ⟨i.toNat, by omega⟩
  obtain ⟨ad, A3, c3, A4, c4, A5, c5, rfl, q0, q1, q2, q3, q4, q5, l3, h3, l4, h4, l5, h5⟩ := at_T130 hl n h0 h1
  rw [Int.toNat_natCast] at q0 q1 q2 q3 q4 q5
  have H3 := Lib.hid h3
  have H4 := Lib.hid h4
  clear h3 h4 h5 hl
  replace q0 := pw_cell_below hw q0
  replace q1 := pw_cell_below hw q1
  replace q2 := pw_cell_below hw q2
  replace q3 := pw_cell_below hw q3
  replace q4 := pw_cell_below hw q4
  replace q5 := pw_cell_below hw q5
  clear hw
  generalize rd_T130 ls n = x at *
  replace q0 := fun o => cell_old (o := o) q0
  replace q1 := fun o => cell_old (o := o) q1
  replace q2 := fun o => cell_old (o := o) q2
  replace q3 := fun o => cell_old (o := o) q3
  replace q4 := fun o => cell_old (o := o) q4
  replace q5 := fun o => cell_old (o := o) q5
  replace hb := fun o => cell_old (o := o) hb
  go_enter Try.func120, Try.ntmps120
  go_wp2
  exact bodyPost_ret (v := .agg #[.int .i64 x.f0, .int .i64 x.f1, .bool x.f2, .slice A3 x.f3.length c3, .slice A4 x.f4.length c4, .slice A5 x.f5.length c5]) (by simp [results, Try.results120, go_sem]) rfl ⟨⟨A3, c3, A4, c4, A5, c5, rfl, H3.out, H4.out⟩, (Below.refl _ _).alloc (Nat.le_refl _) _⟩

end Go.Proofs.Ytekoogedhmhpgaa

namespace Go.Proofs.Ytekoogedhmhpgaa
open Go.RowKit Go.Proofs.YtekoogedhmhpgaaW.PrintWords

/-- A lie as a value: its numbers, and rows of the call's own. -/
def LieVal (w : World) (base : Nat) (x : S130) (v : Value) : Prop :=
  ∃ vk va vf, v = .agg #[.int .i64 x.f0, .int .i64 x.f1, .bool x.f2, vk, va, vf] ∧ k130.M w base (fun _ => True) x [.int .i64 x.f0, .int .i64 x.f1, .bool x.f2, vk, va, vf]
theorem nil_R (w : World) (base : Nat) : (Kd.int .i64).R 3 w base (fun _ => True) (.slice none 0 0) [] := Kd.R_nil _ _ _ _ _
theorem lit_R {w : World} {base g : Nat} {xs : List Int} (hb : base ≤ g) (hg : w.heap[g]? = some (.cells (nums .i64 xs).toArray 3 (0, 0))) (hl : xs.length ≤ 100) : (Kd.int .i64).R 3 w base (fun _ => True) (.slice (some ⟨g, 0, none⟩) xs.length xs.length) xs := by
  refine Kd.R_of_own ⟨by simp [encs], .inr ⟨g, xs.length, _, rfl, hb, hg, Nat.le_refl _, by unfold maxLen; omega, by simp [nums], ?_⟩⟩ (fun _ _ => trivial)
  simp only [nums, encs]
  exact List.take_of_length_le (by simp)

theorem frozen_old {w : World} {o : Obj} {b i : Nat} (h : b < w.heap.size) (hf : w.frozen? ⟨b, i, none⟩ = false) : (w.alloc o).frozen? ⟨b, i, none⟩ = false :=
  (((Below.refl w.heap.size w).alloc (Nat.le_refl _) o).frozen h).trans hf
theorem blk_keep {w : World} {k : Nat} {o : Obj} (h : w.heap[k]? = some o) (p : Obj) : (w.alloc p).heap[k]? = some o :=
  (Deep.blk_alloc_lt _ _ _ (Array.getElem?_eq_some_iff.1 h).1).trans h
theorem blk1 (w : World) (a o : Obj) : ((w.alloc a).alloc o).heap[w.heap.size + 1]? = some o := by
  have h := Deep.blk_alloc_new (w.alloc a) o
  simpa using h
theorem blk2 (w : World) (a b o : Obj) : (((w.alloc a).alloc b).alloc o).heap[w.heap.size + 1 + 1]? = some o := by
  have h := Deep.blk_alloc_new ((w.alloc a).alloc b) o
  simpa using h
theorem blk3 (w : World) (a b c o : Obj) : ((((w.alloc a).alloc b).alloc c).alloc o).heap[w.heap.size + 1 + 1 + 1]? = some o := by
  have h := Deep.blk_alloc_new (((w.alloc a).alloc b).alloc c) o
  simpa using h

set_option maxHeartbeats 400000 in
set_option maxRecDepth 100000 in
theorem one_pair (K E N : Int) (A : Option Addr) (len c : Nat) (fv : Value) (w : World) (h : K = 14 ∨ K = 15) :
    Calls Try.prog 121 #[.agg #[.int .i64 K, .int .i64 E, .int .i64 N, .slice A len c], fv] w fun e w' => (∃ v, e = .returned v ∧ LieVal w' w.heap.size ⟨16, 8, true, [11, 5], [0, 8], []⟩ v) ∧ Below w.heap.size w w' := by
  have key : ∀ a b, LieVal ((((w.alloc a).alloc b).alloc (.cells #[.int .i64 11, .int .i64 5] 3)).alloc (.cells #[.int .i64 0, .int .i64 8] 3)) w.heap.size ⟨16, 8, true, [11, 5], [0, 8], []⟩ (.agg #[.int .i64 16, .int .i64 8, .bool true, .slice (some ⟨w.heap.size + 1 + 1, 0, none⟩) 2 2, .slice (some ⟨w.heap.size + 1 + 1 + 1, 0, none⟩) 2 2, .slice none 0 0]) := by
    intro a b
    refine ⟨_, _, _, rfl, k130_mkM _ _ _ _ ?_ ?_ ?_⟩
    · exact lit_R (xs := [11, 5]) (by omega) (blk_keep (blk2 w a b _) _) (by simp)
    · exact lit_R (xs := [0, 8]) (by omega) (blk3 w a b _ _) (by simp)
    · exact nil_R _ _
  have KEY := Lib.hid key
  clear key
  have hB : ∀ a b c d, Below w.heap.size w ((((w.alloc a).alloc b).alloc c).alloc d) := fun a b c d => (below3 w a b c).alloc (by simp; omega) d
  have HB := Lib.hid hB
  clear hB
  rcases h with rfl | rfl
  all_goals
    go_enter Try.func121, Try.ntmps121
    go_wp2
    refine bodyPost_ret (v := .agg #[.int .i64 16, .int .i64 8, .bool true, .slice (some ⟨w.heap.size + 1 + 1, 0, none⟩) 2 2, .slice (some ⟨w.heap.size + 1 + 1 + 1, 0, none⟩) 2 2, .slice none 0 0]) (by simp [results, Try.results121, go_sem]) rfl ⟨⟨_, rfl, KEY.out _ _⟩, HB.out _ _ _ _⟩

set_option maxHeartbeats 400000 in
set_option maxRecDepth 100000 in
theorem one_scalar (K E N : Int) (A : Option Addr) (len c : Nat) (fv : Value) (w : World) (h : 1 ≤ K ∧ K ≤ 11) :
    Calls Try.prog 121 #[.agg #[.int .i64 K, .int .i64 E, .int .i64 N, .slice A len c], fv] w fun e w' => (∃ v, e = .returned v ∧ LieVal w' w.heap.size ⟨nbytes K, nbytes K, true, [K], [0], []⟩ v) ∧ Below w.heap.size w w' := by
  have key : ∀ a b, LieVal ((((w.alloc a).alloc b).alloc (.cells #[.int .i64 K] 3)).alloc (.cells #[.int .i64 0] 3)) w.heap.size ⟨nbytes K, nbytes K, true, [K], [0], []⟩ (.agg #[.int .i64 (nbytes K), .int .i64 (nbytes K), .bool true, .slice (some ⟨w.heap.size + 1 + 1, 0, none⟩) 1 1, .slice (some ⟨w.heap.size + 1 + 1 + 1, 0, none⟩) 1 1, .slice none 0 0]) := by
    intro a b
    refine ⟨_, _, _, rfl, k130_mkM _ _ _ _ ?_ ?_ ?_⟩
    · exact lit_R (xs := [K]) (by omega) (blk_keep (blk2 w a b _) _) (by simp)
    · exact lit_R (xs := [0]) (by omega) (blk3 w a b _ _) (by simp)
    · exact nil_R _ _
  have KEY := Lib.hid key
  have hB : ∀ a b c d, Below w.heap.size w ((((w.alloc a).alloc b).alloc c).alloc d) := fun a b c d => (below3 w a b c).alloc (by simp; omega) d
  have HB := Lib.hid hB
  have k12 : (K == 12) = false := by rw [beq_eq_false_iff_ne]; omega
  have k13 : (K == 13) = false := by rw [beq_eq_false_iff_ne]; omega
  have k14 : (K == 14) = false := by rw [beq_eq_false_iff_ne]; omega
  have k15 : (K == 15) = false := by rw [beq_eq_false_iff_ne]; omega
  clear hB key h
  go_enter Try.func121, Try.ntmps121
  go_wp2_with (go_at_call 61; refine (word_Bytes _ _).mono ?_; rintro e w' ⟨rfl, rfl⟩)
  refine bodyPost_ret (v := .agg #[.int .i64 (nbytes K), .int .i64 (nbytes K), .bool true, .slice (some ⟨w.heap.size + 1 + 1, 0, none⟩) 1 1, .slice (some ⟨w.heap.size + 1 + 1 + 1, 0, none⟩) 1 1, .slice none 0 0]) (by simp [results, Try.results121, go_sem]) rfl ⟨⟨_, rfl, KEY.out _ _⟩, HB.out _ _ _ _⟩

set_option maxHeartbeats 400000 in
set_option maxRecDepth 100000 in
theorem one_array (E N : Int) (A : Option Addr) (len c lb cap : Nat) (B : Option Addr) (ls : List S130) (w : World) (hb : w.cell? ⟨lb, 0, none⟩ = some (.slice B ls.length cap)) (hl : Kd.C k130 w B ls.length ls) (h0 : 0 ≤ E) (h1 : E < ls.length) (hN : 0 ≤ N ∧ N ≤ 65536) (hs : 0 ≤ (rd_T130 ls E).f0 ∧ (rd_T130 ls E).f0 ≤ 65536) :
    Calls Try.prog 121 #[.agg #[.int .i64 12, .int .i64 E, .int .i64 N, .slice A len c], .func (.func 120) #[] #[.pointer (some ⟨lb, 0, none⟩)]] w fun e w' => (∃ v, e = .returned v ∧ LieVal w' w.heap.size ⟨N * (rd_T130 ls E).f0, (rd_T130 ls E).f1, false, [], [], []⟩ v) ∧ Below w.heap.size w w' := by
  have HL := Lib.hid hl
  have HBC := Lib.hid hb
  obtain ⟨hN0, hN1⟩ := hN
  obtain ⟨hs0, hs1⟩ := hs
  clear hl hb
  go_enter Try.func121, Try.ntmps121
  go_wp2_with fail
  have hbel : ∀ a b, Below w.heap.size w ((w.alloc a).alloc b) := fun a b => ((Below.refl _ _).alloc (Nat.le_refl _) a).alloc (by simp) b
  refine (found_ok lb cap B ls E _ w (hbel _ _) (pw_cell_below (hbel _ _) HBC.out) HL.out h0 h1).mono ?_
  rintro e w2 ⟨⟨A3, c3, A4, c4, A5, c5, rfl, _, _⟩, hb2⟩
  generalize hx : rd_T130 ls E = x at *
  have HX := Lib.hid hx
  clear hx
  have q2 := pw_cell_below hb2 (a := ⟨w.heap.size, 2, none⟩) (v := .int .i64 N) (by simp)
  have y0 := pw_cell_below hb2 (a := ⟨w.heap.size + 1, 0, none⟩) (v := .int .i64 0) (by simp)
  have z0 : w2.frozen? ⟨w.heap.size + 1, 0, none⟩ = false := (hb2.frozen (p := ⟨w.heap.size + 1, 0, none⟩) (by simp)).trans (by simp)
  have y1 := pw_cell_below hb2 (a := ⟨w.heap.size + 1, 1, none⟩) (v := .int .i64 0) (by simp)
  have z1 : w2.frozen? ⟨w.heap.size + 1, 1, none⟩ = false := (hb2.frozen (p := ⟨w.heap.size + 1, 1, none⟩) (by simp)).trans (by simp)
  have y2 := pw_cell_below hb2 (a := ⟨w.heap.size + 1, 2, none⟩) (v := .bool false) (by simp)
  have z2 : w2.frozen? ⟨w.heap.size + 1, 2, none⟩ = false := (hb2.frozen (p := ⟨w.heap.size + 1, 2, none⟩) (by simp)).trans (by simp)
  have y3 := pw_cell_below hb2 (a := ⟨w.heap.size + 1, 3, none⟩) (v := .slice none 0 0) (by simp)
  have z3 : w2.frozen? ⟨w.heap.size + 1, 3, none⟩ = false := (hb2.frozen (p := ⟨w.heap.size + 1, 3, none⟩) (by simp)).trans (by simp)
  have y4 := pw_cell_below hb2 (a := ⟨w.heap.size + 1, 4, none⟩) (v := .slice none 0 0) (by simp)
  have z4 : w2.frozen? ⟨w.heap.size + 1, 4, none⟩ = false := (hb2.frozen (p := ⟨w.heap.size + 1, 4, none⟩) (by simp)).trans (by simp)
  have y5 := pw_cell_below hb2 (a := ⟨w.heap.size + 1, 5, none⟩) (v := .slice none 0 0) (by simp)
  have z5 : w2.frozen? ⟨w.heap.size + 1, 5, none⟩ = false := (hb2.frozen (p := ⟨w.heap.size + 1, 5, none⟩) (by simp)).trans (by simp)
  have hsz : w.heap.size + 2 ≤ w2.heap.size := by have := hb2.size; simpa using this
  have hne : ¬ w.heap.size + 1 = w2.heap.size := by omega
  replace q2 := fun o => cell_old (o := o) q2
  replace y0 := fun o => cell_old (o := o) y0
  replace z0 := fun o => frozen_old (o := o) (by omega) z0
  replace y1 := fun o => cell_old (o := o) y1
  replace z1 := fun o => frozen_old (o := o) (by omega) z1
  replace y2 := fun o => cell_old (o := o) y2
  replace z2 := fun o => frozen_old (o := o) (by omega) z2
  replace y3 := fun o => cell_old (o := o) y3
  replace z3 := fun o => frozen_old (o := o) (by omega) z3
  replace y4 := fun o => cell_old (o := o) y4
  replace z4 := fun o => frozen_old (o := o) (by omega) z4
  replace y5 := fun o => cell_old (o := o) y5
  replace z5 := fun o => frozen_old (o := o) (by omega) z5
  have B2 := Lib.hid ((hbel _ _).trans (hb2.mono (B' := w.heap.size) (by simp; omega)))
  clear hb2 hbel
  have hm0 : 0 ≤ N * x.f0 := Int.mul_nonneg hN0 hs0
  have hm1 : N * x.f0 ≤ 65536 * 65536 := Int.mul_le_mul hN1 hs1 hs0 (by omega)
  have HW := Lib.hid (show wrap64 (N * x.f0) = N * x.f0 by unfold wrap64; omega)
  clear hm0 hm1
  go_wp2
  refine bodyPost_ret (v := .agg #[.int .i64 (wrap64 (N * x.f0)), .int .i64 x.f1, .bool false, .slice none 0 0, .slice none 0 0, .slice none 0 0]) (by simp [results, Try.results121, go_sem, y0, y1, y2, y3, y4, y5]) rfl ⟨⟨_, rfl, ?_⟩, ?_⟩
  · rw [HX.out, HW.out]
    exact ⟨_, _, _, rfl, k130_mkM _ _ _ _ (nil_R _ _) (nil_R _ _) (nil_R _ _)⟩
  · have h1 : Below w.heap.size w (w2.alloc (.cells #[.int .i64 x.f0, .int .i64 x.f1, .bool x.f2, .slice A3 x.f3.length c3, .slice A4 x.f4.length c4, .slice A5 x.f5.length c5] 130)) := B2.out.alloc B2.out.size _
    exact (((((h1.setCell (by simp) _).setCell (by simp) _).setCell (by simp) _).setCell (by simp) _).setCell (by simp) _).setCell (by simp) _

end Go.Proofs.Ytekoogedhmhpgaa

namespace Go.Proofs.Ytekoogedhmhpgaa
open Go.RowKit Go.Proofs.YtekoogedhmhpgaaW.PrintWords

/-- Two rows that are not one. -/
def Apart2 (v v' : Value) : Prop := v.ownBlock = none ∨ v.ownBlock ≠ v'.ownBlock
theorem Apart2.symm {v v' : Value} (h : Apart2 v v') : Apart2 v' v := by
  rcases h with h | h
  · cases hv : v'.ownBlock with
    | none => exact .inl hv
    | some b => exact .inr (by rw [hv, h]; simp)
  · exact .inr (Ne.symm h)

/-- Block yb holds the cells cs (of type T); three rows of the call's own, apart. -/
structure YR (w : World) (B yb : Nat) (cs : Array Value) (vk va vf : Value) (ks us fs : List Int) : Prop where
  blk : w.heap[yb]? = some (.cells cs 130 (0, 0))
  k : w.ownsRow B 3 1 vk ks.length (nums .i64 ks)
  a : w.ownsRow B 3 1 va us.length (nums .i64 us)
  f : w.ownsRow B 3 1 vf fs.length (nums .i64 fs)
  ka : Apart2 vk va
  kf : Apart2 vk vf
  af : Apart2 va vf

theorem apart_after {W : World} {B : Nat} {v v1 v' : Value} {e size n : Nat} {xs : List Value} (h : Apart2 v v') (hat : v1.ownBlock = v.ownBlock ∨ v1.ownBlock = some W.heap.size) (ho : W.ownsRow B e size v' n xs) : Apart2 v1 v' := by
  rcases hat with hat | hat
  · rcases h with h | h
    · exact .inl (hat.trans h)
    · exact .inr (by rw [hat]; exact h)
  · right
    rw [hat]
    intro he
    have := own_lt ho W.heap.size he.symm
    omega

namespace YR
variable {w w' : World} {B yb : Nat} {cs : Array Value} {vk va vf : Value} {ks us fs : List Int}
theorem cell (h : YR w B yb cs vk va vf ks us fs) (i : Nat) : w.cell? ⟨yb, i, none⟩ = cs[i]? := by simp [World.cell?, h.blk]
theorem fz (h : YR w B yb cs vk va vf ks us fs) (i : Nat) : w.frozen? ⟨yb, i, none⟩ = false := by simp [World.frozen?, h.blk]
theorem lt (h : YR w B yb cs vk va vf ks us fs) : yb < w.heap.size := (Array.getElem?_eq_some_iff.1 h.blk).1
theorem ne (h : YR w B yb cs vk va vf ks us fs) : some yb ≠ vk.ownBlock ∧ some yb ≠ va.ownBlock ∧ some yb ≠ vf.ownBlock :=
  ⟨own_ne h.k h.blk (by decide), own_ne h.a h.blk (by decide), own_ne h.f h.blk (by decide)⟩
/-- All that this stands on is as it was. -/
theorem move (h : YR w B yb cs vk va vf ks us fs) (hb : ∀ i, i < w.heap.size → w'.heap[i]? = w.heap[i]?) : YR w' B yb cs vk va vf ks us fs :=
  ⟨(hb _ h.lt).trans h.blk, own_move h.k (fun i hi => hb i (own_lt h.k i hi)), own_move h.a (fun i hi => hb i (own_lt h.a i hi)), own_move h.f (fun i hi => hb i (own_lt h.f i hi)), h.ka, h.kf, h.af⟩
theorem alloc (h : YR w B yb cs vk va vf ks us fs) (o : Obj) : YR (w.alloc o) B yb cs vk va vf ks us fs := h.move fun _ hi => Below.heap_alloc _ _ _ hi
theorem drew (h : YR w B yb cs vk va vf ks us fs) : YR w.drew B yb cs vk va vf ks us fs := h.move fun _ _ => rfl
theorem drewN (h : YR w B yb cs vk va vf ks us fs) (n : Nat) : YR (w.drewN n) B yb cs vk va vf ks us fs := h.move fun _ _ => rfl
theorem below (h : YR w B yb cs vk va vf ks us fs) (hb : Below w.heap.size w w') : YR w' B yb cs vk va vf ks us fs := h.move hb.block
theorem set (h : YR w B yb cs vk va vf ks us fs) (i : Nat) (v : Value) : YR (w.setCell ⟨yb, i, none⟩ v) B yb (cs.setIfInBounds i v) vk va vf ks us fs :=
  ⟨by simp [World.setCell, Array.getElem?_modify, h.blk], own_setCell h.k h.ne.1 v, own_setCell h.a h.ne.2.1 v, own_setCell h.f h.ne.2.2 v, h.ka, h.kf, h.af⟩
theorem appF (h : YR w B yb cs vk va vf ks us fs) {w1 : World} {v1 : Value} {s : Int} {n : Nat} {xs : List Value} (ho : w1.ownsRow B 3 1 v1 n xs) (hn : n = fs.length + 1) (hx : xs = nums .i64 fs ++ [.int .i64 s]) (hg : w.grownBy w1 vf.ownBlock) (hat : v1.ownBlock = vf.ownBlock ∨ v1.ownBlock = some w.heap.size) :
    YR w1 B yb cs vk va v1 ks us (fs ++ [s]) :=
  ⟨(hg.block yb h.lt h.ne.2.2).trans h.blk, h.k.kept hg h.kf, h.a.kept hg h.af, (by subst hn hx; simpa [nums] using ho), h.ka, (apart_after h.kf.symm hat h.k).symm, (apart_after h.af.symm hat h.a).symm⟩
theorem appK (h : YR w B yb cs vk va vf ks us fs) {w1 : World} {v1 : Value} {s : Int} {n : Nat} {xs : List Value} (ho : w1.ownsRow B 3 1 v1 n xs) (hn : n = ks.length + 1) (hx : xs = nums .i64 ks ++ [.int .i64 s]) (hg : w.grownBy w1 vk.ownBlock) (hat : v1.ownBlock = vk.ownBlock ∨ v1.ownBlock = some w.heap.size) :
    YR w1 B yb cs v1 va vf (ks ++ [s]) us fs :=
  ⟨(hg.block yb h.lt h.ne.1).trans h.blk, (by subst hn hx; simpa [nums] using ho), h.a.kept hg h.ka.symm, h.f.kept hg h.kf.symm, apart_after h.ka hat h.a, apart_after h.kf hat h.f, h.af⟩
theorem appA (h : YR w B yb cs vk va vf ks us fs) {w1 : World} {v1 : Value} {s : Int} {n : Nat} {xs : List Value} (ho : w1.ownsRow B 3 1 v1 n xs) (hn : n = us.length + 1) (hx : xs = nums .i64 us ++ [.int .i64 s]) (hg : w.grownBy w1 va.ownBlock) (hat : v1.ownBlock = va.ownBlock ∨ v1.ownBlock = some w.heap.size) :
    YR w1 B yb cs vk v1 vf ks (us ++ [s]) fs :=
  ⟨(hg.block yb h.lt h.ne.2.1).trans h.blk, h.k.kept hg h.ka, (by subst hn hx; simpa [nums] using ho), h.f.kept hg h.af.symm, (apart_after h.ka.symm hat h.k).symm, h.kf, apart_after h.af hat h.f⟩
end YR

/-- The lie y in block yb; its rows are the call's own, and apart. -/
def YAt (w : World) (B yb : Nat) (y : S130) (vk va vf : Value) : Prop :=
  YR w B yb #[.int .i64 y.f0, .int .i64 y.f1, .bool y.f2, vk, va, vf] vk va vf y.f3 y.f4 y.f5
theorem YAt.facts {w : World} {B yb : Nat} {y : S130} {vk va vf : Value} (h : YAt w B yb y vk va vf) :
    w.cell? ⟨yb, 0, none⟩ = some (.int .i64 y.f0) ∧ w.cell? ⟨yb, 1, none⟩ = some (.int .i64 y.f1) ∧ w.cell? ⟨yb, 2, none⟩ = some (.bool y.f2) ∧ w.cell? ⟨yb, 3, none⟩ = some vk ∧ w.cell? ⟨yb, 4, none⟩ = some va ∧ w.cell? ⟨yb, 5, none⟩ = some vf ∧
      w.frozen? ⟨yb, 0, none⟩ = false ∧ w.frozen? ⟨yb, 1, none⟩ = false ∧ w.frozen? ⟨yb, 2, none⟩ = false ∧ w.frozen? ⟨yb, 3, none⟩ = false ∧ w.frozen? ⟨yb, 4, none⟩ = false ∧ w.frozen? ⟨yb, 5, none⟩ = false :=
  ⟨h.cell 0, h.cell 1, h.cell 2, h.cell 3, h.cell 4, h.cell 5, h.fz 0, h.fz 1, h.fz 2, h.fz 3, h.fz 4, h.fz 5⟩
theorem YAt.val {w : World} {B yb : Nat} {y : S130} {vk va vf : Value} (h : YAt w B yb y vk va vf) : LieVal w B y (.agg #[.int .i64 y.f0, .int .i64 y.f1, .bool y.f2, vk, va, vf]) :=
  ⟨vk, va, vf, rfl, k130_mkM _ _ _ _ (Kd.R_of_own h.k (fun _ _ => trivial)) (Kd.R_of_own h.a (fun _ _ => trivial)) (Kd.R_of_own h.f (fun _ _ => trivial))⟩

def stepL (y x : S130) : S130 :=
  { f0 := upN y.f0 x.f1 + x.f0, f1 := max y.f1 x.f1, f2 := y.f2 && x.f2 && decide (y.f3.length + x.f3.length ≤ 16),
    f3 := if (y.f2 && x.f2 && decide (y.f3.length + x.f3.length ≤ 16)) = true then y.f3 ++ x.f3 else y.f3,
    f4 := if (y.f2 && x.f2 && decide (y.f3.length + x.f3.length ≤ 16)) = true then y.f4 ++ x.f4.map (upN y.f0 x.f1 + ·) else y.f4,
    f5 := y.f5 ++ [upN y.f0 x.f1] }
def foldL (ls : List S130) (F : List Int) : S130 := F.foldl (fun y f => stepL y (rd_T130 ls f)) ⟨0, 1, true, [], [], []⟩
def structL (ls : List S130) (F : List Int) : S130 := { foldL ls F with f0 := upN (foldL ls F).f0 (foldL ls F).f1 }
theorem foldL_snoc (ls : List S130) (F : List Int) (f : Int) : foldL ls (F ++ [f]) = stepL (foldL ls F) (rd_T130 ls f) := by simp [foldL]

/-- What holds of the lie while fields are laid, k of them. -/
structure YOk (k : Nat) (y : S130) : Prop where
  size : 0 ≤ y.f0 ∧ y.f0 ≤ k * 65544
  align : y.f1 = 1 ∨ y.f1 = 2 ∨ y.f1 = 4 ∨ y.f1 = 8
  len : y.f3.length = y.f4.length
  kinds : y.f3.length ≤ 16
  fields : y.f5.length = k
  at_ : ∀ a ∈ y.f4, 0 ≤ a ∧ a ≤ k * 65544 + 65536
theorem yOk_step {k : Nat} {y x : S130} (h : YOk k y) (hx : LieOk x) : YOk (k + 1) (stepL y x) := by
  have hu := upN_bd (n := y.f0) (a := x.f1) (by have := hx.align; omega)
  have h1 := h.size
  have h2 := hx.size
  have ha := hx.align
  refine ⟨by simp only [stepL]; omega, ?_, ?_, ?_, by simp [stepL, h.fields], ?_⟩
  · simp only [stepL]
    have := h.align
    omega
  · simp only [stepL]
    split
    · simp [h.len, hx.len]
    · exact h.len
  · simp only [stepL]
    split
    · rename_i hc
      simp at hc
      simp
      omega
    · exact h.kinds
  · intro a hm
    simp only [stepL] at hm
    split at hm
    · rcases List.mem_append.1 hm with hm | hm
      · have := h.at_ a hm; omega
      · obtain ⟨b, hb, rfl⟩ := List.mem_map.1 hm
        have := hx.at_ b hb
        omega
    · have := h.at_ a hm; omega

end Go.Proofs.Ytekoogedhmhpgaa

namespace Go.Proofs.Ytekoogedhmhpgaa
open Go

section
variable {P : Program} {ops : Array Oper} {Q : Exit → Act → World → Prop} {md : Region.Mode} {S : World → Prop} {D : Array Bool → World → Prop}

/-- Whatever comes up; behind each D is to be shown, of what has come up and of the world. -/
def anyM (P : Program) (md : Region.Mode) (ops : Array Oper) (Q : Exit → Act → World → Prop) (D : Array Bool → World → Prop) : Nat → Array Bool → Act → World → Prop
  | 0, listed, a, w => Region.ready md ops listed = [] ∧ Q .normal a w
  | f + 1, listed, a, w => (Region.ready md ops listed = [] → Q .normal a w) ∧
    ∀ i ∈ Region.ready md ops listed, wpOp P ops Q i (fun a' w' => D (listed.setIfInBounds i true) w' ∧ anyM P md ops Q D f (listed.setIfInBounds i true) a' w') a w

theorem any_of_M (f : Nat) : ∀ (listed : Array Bool) (a : Act) (w : World), anyM P md ops Q D f listed a w → wpAny P md ops Q f listed a w := by
  induction f with
  | zero => intro listed a w h; exact h
  | succ f ih => intro listed a w h; exact ⟨h.1, fun i hi => wpOp_mono (fun a' w' h' => ih _ a' w' h'.2) (h.2 i hi)⟩

theorem getD_set_in {listed : Array Bool} {i j : Nat} (h : listed.getD j true = true) (h2 : listed.getD j false = true) (d : Bool) : (listed.setIfInBounds i true).getD j d = true := by
  by_cases hij : i = j
  · subst hij
    have : i < listed.size := by
      rcases Nat.lt_or_ge i listed.size with h' | h'
      · exact h'
      · simp [Array.getElem?_eq_none h'] at h2
    simp [this]
  · rw [getD_set_ne d hij]
    cases d
    · exact h2
    · exact h

/-- Once the numbers that D hangs on have come up, nothing more is asked. -/
theorem M_of_any {G : Array Bool → Prop} (hG : ∀ listed i, G listed → G (listed.setIfInBounds i true)) (hD : ∀ listed w, G listed → D listed w) (f : Nat) :
    ∀ (listed : Array Bool) (a : Act) (w : World), G listed → wpAny P md ops Q f listed a w → anyM P md ops Q D f listed a w := by
  induction f with
  | zero => intro listed a w _ h; exact h
  | succ f ih => intro listed a w hg h; exact ⟨h.1, fun i hi => wpOp_mono (fun a' w' h' => ⟨hD _ _ (hG _ i hg), ih _ a' w' (hG _ i hg) h'⟩) (h.2 i hi)⟩

/-- What is told of the state a hangs only on what the operation o looks at. -/
def LooksAt (ops : Array Oper) (o : Oper) (Y : Act → Prop) : Prop :=
  ∀ a a', Y a → execOp a'.eval o = execOp a.eval o → Region.wanted o (yielded ops a'.tmps) = Region.wanted o (yielded ops a.tmps) → Y a'

theorem wpOp_putY {j : Nat} {oi oj : Oper} {v : Value} {Y : Act → Prop} (hY : LooksAt ops oi Y) (hj : ops[j]? = some oj) (hap : oi.apart ops oj = true) (hsi : ∀ cs b, oi.op ≠ .select cs b) (hsj : ∀ cs b, oj.op ≠ .select cs b)
    (hQ : ∀ c a w, Q (.panic c) (a.put oi.dst v) w → Q (.panic c) a w) {K : Act → World → Prop} {a : Act} {w : World} (hy : Y a) (h : wpOp P ops Q j K (a.put oi.dst v) w) :
    wpOp P ops Q j (fun a' w' => Y a' ∧ K (a'.put oi.dst v) w') a w := by
  obtain ⟨h1, h2, h3⟩ := Oper.apart_spec hap
  have keep : ∀ (a : Act), Y a → ∀ u, Y (a.put oj.dst u) := fun a hy u => hY _ _ hy (execOp_put oi hsi a oj.dst u h3) (wanted_put oi a oj.dst u h3)
  have keepD : ∀ d, Y { a with defers := d :: a.defers } := fun d => hY _ _ hy rfl rfl
  unfold wpOp at *
  simp only [hj] at *
  rw [wanted_put oj a oi.dst v h1] at h
  split
  · rename_i hw
    simp only [hw, if_true] at h
    rcases h with h | ⟨hasks, hlets⟩
    case inr => exact .inr ⟨by unfold Oper.asks at *; rw [execOp_put oj hsj a oi.dst v h1] at hasks; exact hasks, hlets⟩
    refine .inl ?_
    unfold Oper.wp at *
    rw [execOp_put oj hsj a oi.dst v h1] at h
    generalize (execOp a.eval oj).run P w = r at *
    cases r with
    | ok n w' =>
      cases n <;> simp only [Oper.upon] at h ⊢
      case value u => exact ⟨keep a hy u, by rw [← Act.put_comm a v u h2]; exact h⟩
      case skip => exact ⟨keep a hy _, by rw [← Act.put_comm a v undef h2]; exact h⟩
      case defer d =>
        refine ⟨keep _ (keepD d) _, ?_⟩
        rw [← Act.put_comm _ v undef h2, ← Act.put_defers]
        exact h
      case enter f args =>
        refine Calls.mono h fun e w'' he => ?_
        cases e with
        | returned u => exact ⟨keep a hy u, by rw [← Act.put_comm a v u h2]; exact he⟩
        | panicked c => exact hQ _ _ _ he
        | outgrown => exact he
      case row row args => exact Rows.mono h fun u w'' he => ⟨keep a hy u, by rw [← Act.put_comm a v u h2]; exact he⟩
    | halt x w' =>
      cases x <;> simp only [Oper.upon] at h ⊢
      case panic u => exact hQ _ _ _ h
  · rename_i hw
    simp only [hw] at h
    exact ⟨keep a hy _, by rw [← Act.put_comm a v undef h2]; exact h⟩

/-- What an operation waits for has come up ahead of it. -/
def RClosed (md : Region.Mode) (ops : Array Oper) (listed : Array Bool) : Prop :=
  ∀ k ok, ops[k]? = some ok → listed.getD k false = true → ∀ e ∈ ok.after, Region.binds md e = true → listed.getD e.on false = true
def closedB (md : Region.Mode) (ops : Array Oper) (listed : Array Bool) : Bool :=
  (List.range ops.size).all fun k => !(listed.getD k false) || (match ops[k]? with | some o => o.after.toList.all (fun e => !(Region.binds md e) || listed.getD e.on false) | none => true)
theorem closed_of_B {listed : Array Bool} (h : closedB md ops listed = true) : RClosed md ops listed := by
  intro k ok hk hl e he hb
  have hlt : k < ops.size := (Array.getElem?_eq_some_iff.1 hk).1
  have h1 := List.all_eq_true.1 h k (List.mem_range.2 hlt)
  simp only [hk, hl, Bool.not_true, Bool.false_or] at h1
  have h2 := List.all_eq_true.1 h1 e (Array.mem_toList_iff.2 he)
  simpa only [hb, Bool.not_true, Bool.false_or] using h2
theorem closed_set {j : Nat} {listed : Array Bool} (h : RClosed md ops listed) (hj : j ∈ Region.ready md ops listed) : RClosed md ops (listed.setIfInBounds j true) := by
  intro k ok hk hl e he hb
  by_cases hkj : j = k
  · subst hkj
    obtain ⟨_, oj, hoj, hall⟩ := mem_ready.1 hj
    rw [hk] at hoj
    cases hoj
    exact getD_set_true (hall e he hb)
  · rw [getD_set_ne false hkj] at hl
    exact getD_set_true (h k ok hk hl e he hb)
/-- n waits for the first of ks, that one for the next, and so on to i. -/
def pathB (md : Region.Mode) (ops : Array Oper) : Nat → List Nat → Nat → Bool
  | n, [], i => Region.waitsFor md ops n i
  | n, k :: ks, i => Region.waitsFor md ops n k && pathB md ops k ks i
theorem path_listed {listed : Array Bool} {i : Nat} (hc : RClosed md ops listed) (ks : List Nat) : ∀ n, pathB md ops n ks i = true → (∀ on, ops[n]? = some on → ∀ e ∈ on.after, Region.binds md e = true → listed.getD e.on false = true) → listed.getD i false = true := by
  induction ks with
  | nil =>
    intro n h hn
    obtain ⟨on, hon, e, he, hb, heo⟩ := Region.waitsFor_spec h
    rw [← heo]
    exact hn on hon e he hb
  | cons k ks ih =>
    intro n h hn
    simp only [pathB, Bool.and_eq_true] at h
    obtain ⟨on, hon, e, he, hb, heo⟩ := Region.waitsFor_spec h.1
    have hk := hn on hon e he hb
    rw [heo] at hk
    exact ih k h.2 (fun ok hok e he hb => hc k ok hok hk e he hb)

/-- The operation i may be taken first: till n, which waits for it, has come up, D tells of the world what i needs. -/
theorem anyM_first {n i : Nat} {oi : Oper} {v : Value} {T : World → Prop} {Y : Act → Prop} (hY : LooksAt ops oi Y) (hYo : ∀ (K : Act → World → Prop) a w, Y a → T w → K (a.put oi.dst v) w → wpOp P ops Q i K a w)
    (hi : ops[i]? = some oi) (hsel : ∀ (j : Nat) (o : Oper) cs b, ops[j]? = some o → o.op ≠ .select cs b) (hQ : ∀ c a w, Q (.panic c) (a.put oi.dst v) w → Q (.panic c) a w)
    (hDi : ∀ listed w, D (listed.setIfInBounds i true) w ↔ D listed w) (ps : List Nat) (hw : pathB md ops n ps i = true) (hDT : ∀ listed w, listed.getD n true = false → D listed w → T w) (f : Nat) :
    ∀ (listed : Array Bool) (a : Act) (w : World), RClosed md ops listed → listed.getD n true = false →
      (∀ j oj, ops[j]? = some oj → j ≠ i → listed.getD j true = false → (∀ e ∈ oj.after, Region.binds md e = true → e.on ≠ i) → oi.apart ops oj = true) →
      i ∈ Region.ready md ops listed → Y a → D listed w → anyM P md ops Q D f (listed.setIfInBounds i true) (a.put oi.dst v) w → anyM P md ops Q D (f + 1) listed a w := by
  induction f with
  | zero =>
    intro listed a w _ hnl _ hr hy hd H
    refine ⟨fun h => (by rw [h] at hr; cases hr), fun j hj => ?_⟩
    by_cases hji : j = i
    · subst hji; exact hYo _ _ _ hy (hDT _ _ hnl hd) ⟨(hDi _ _).2 hd, H⟩
    · have := ready_mono hj hji
      rw [H.1] at this
      cases this
  | succ f ih =>
    intro listed a w hcl hnl hfree hr hy hd H
    refine ⟨fun h => (by rw [h] at hr; cases hr), fun j hj => ?_⟩
    by_cases hji : j = i
    · subst hji; exact hYo _ _ _ hy (hDT _ _ hnl hd) ⟨(hDi _ _).2 hd, H⟩
    · have h1 := H.2 j (ready_mono hj hji)
      obtain ⟨hjun, oj, hoj, hall⟩ := mem_ready.1 hj
      have hun := (mem_ready.1 hr).1
      have hnot : ∀ e ∈ oj.after, Region.binds md e = true → e.on ≠ i := fun e he hb heq => by
        have h1 := hall e he hb
        rw [heq, getD_both hun] at h1
        cases h1
      have h2 := wpOp_putY hY hoj (hfree j oj hoj hji hjun hnot) (fun cs b => hsel i oi cs b hi) (fun cs b => hsel j oj cs b hoj) hQ hy h1
      have hfree' : ∀ k ok, ops[k]? = some ok → k ≠ i → (listed.setIfInBounds j true).getD k true = false →
          (∀ e ∈ ok.after, Region.binds md e = true → e.on ≠ i) → oi.apart ops ok = true := fun k ok hk hki hk0 hno => by
        refine hfree k ok hk hki ?_ hno
        by_cases hjk : j = k
        · subst hjk; exact hjun
        · rwa [getD_set_ne true hjk] at hk0
      have hcomm : (listed.setIfInBounds i true).setIfInBounds j true = (listed.setIfInBounds j true).setIfInBounds i true := Array.setIfInBounds_comm _ _ (Ne.symm hji)
      refine wpOp_mono (fun a' w' h3 => ?_) h2
      obtain ⟨hy', hs', hm'⟩ := h3
      rw [hcomm] at hm' hs'
      have hs2 : D (listed.setIfInBounds j true) w' := (hDi _ _).1 hs'
      have hjn : j ≠ n := fun h0 => by
        subst h0
        have h1 := path_listed hcl ps j hw (fun on hon => by rw [hoj] at hon; cases hon; exact hall)
        rw [getD_both hun] at h1
        cases h1
      exact ⟨hs2, ih (listed.setIfInBounds j true) a' w' (closed_set hcl hj) (by rw [getD_set_ne true hjn]; exact hnl) hfree' (ready_mono hr (Ne.symm hji)) hy' hs2 hm'⟩

/-- One behind the other, and no other. -/
def ordB (md : Region.Mode) (ops : Array Oper) : List Nat → Array Bool → Bool
  | [], listed => (Region.ready md ops listed).isEmpty
  | k :: ks, listed => decide (Region.ready md ops listed = [k]) && ordB md ops ks (listed.setIfInBounds k true)

theorem any_of_ord (ks : List Nat) : ∀ (l : List Oper) (listed : Array Bool) (a : Act) (w : World), ks.map (fun k => ops[k]?) = l.map some → ordB md ops ks listed = true → wpList P ops Q l a w → wpAny P md ops Q l.length listed a w := by
  induction ks with
  | nil =>
    intro l listed a w hl hB h
    cases l with
    | nil => exact ⟨by simpa [ordB] using hB, h⟩
    | cons => cases hl
  | cons k ks ih =>
    intro l listed a w hl hB h
    cases l with
    | nil => cases hl
    | cons o l =>
      simp only [List.map_cons, List.cons.injEq] at hl
      simp only [ordB, Bool.and_eq_true, decide_eq_true_eq] at hB
      refine ⟨fun h1 => (by rw [hB.1] at h1; cases h1), fun i hi => ?_⟩
      rw [hB.1] at hi
      have hik : i = k := by simpa using hi
      subst hik
      have hw : wpOp P ops Q i (wpList P ops Q l) a w := by unfold wpOp; simp only [hl.1]; exact h
      exact wpOp_mono (fun a' w' h' => ih l _ a' w' hl.2 hB.2 h') hw

/-- What is asked of the world: w0 itself till n has come up; S till n2 has. -/
def Ask (n n2 : Nat) (w0 : World) (S : World → Prop) (listed : Array Bool) (w : World) : Prop := (listed.getD n true = false → w = w0) ∧ (listed.getD n2 true = false → S w)
theorem ask_set {n n2 i : Nat} {w0 : World} {S : World → Prop} (h1 : i ≠ n) (h2 : i ≠ n2) (listed : Array Bool) (w : World) : Ask n n2 w0 S (listed.setIfInBounds i true) w ↔ Ask n n2 w0 S listed w := by
  unfold Ask
  rw [getD_set_ne true h1, getD_set_ne true h2]

/-- Each may be taken first, in this order: true: n waits for it; false: n2 does. Then n, n2, ts, one behind the other. -/
def mixB (md : Region.Mode) (ops : Array Oper) (n n2 : Nat) (ts : List Nat) : List (Bool × Nat) → Array Bool → Bool
  | [], listed => ordB md ops (n :: n2 :: ts) listed && (decide (n < listed.size) && (decide (n2 < listed.size) && decide (n ≠ n2)))
  | (b, k) :: ks, listed => ((Region.ready md ops listed).contains k && Region.free md ops listed k) && (Region.waitsFor md ops (if b then n else n2) k && (decide (k ≠ n) && decide (k ≠ n2))) && decide (listed.getD (if b then n else n2) true = false) && (closedB md ops listed && mixB md ops n n2 ts ks (listed.setIfInBounds k true))

/-- true: it leaves the world w as it is; false: it yields its value in every world that meets S. -/
def wpMix (P : Program) (ops : Array Oper) (w : World) (S : World → Prop) (K : Act → Prop) : List (Bool × Oper) → Act → Prop
  | [], a => K a
  | (true, o) :: os, a => wpStill P ops w (wpMix P ops w S K os) [o] a
  | (false, o) :: os, a => ∃ v, YieldsIf P ops S o v a ∧ wpMix P ops w S K os (a.put o.dst v)

theorem wpMix_nil {w : World} {K : Act → Prop} {a : Act} (h : K a) : wpMix P ops w S K [] a := h
theorem wpMix_yes {w : World} {K : Act → Prop} {o : Oper} {os : List (Bool × Oper)} {a : Act} (h : wpStill P ops w (wpMix P ops w S K os) [o] a) : wpMix P ops w S K ((true, o) :: os) a := h
theorem wpMix_no {w : World} {K : Act → Prop} {o : Oper} {os : List (Bool × Oper)} {a : Act} {v : Value} (hy : YieldsIf P ops S o v a) (h : wpMix P ops w S K os (a.put o.dst v)) : wpMix P ops w S K ((false, o) :: os) a := ⟨v, hy, h⟩

theorem M_of_tail {n n2 : Nat} {ts : List Nat} {w0 : World} (o : Oper) (l : List Oper) (listed : Array Bool) (a : Act) (w : World) (ho : ops[n]? = some o) (hl : (n2 :: ts).map (fun k => ops[k]?) = l.map some) (hn : n < listed.size) (hn2 : n2 < listed.size) (hne : n ≠ n2)
    (hB : ordB md ops (n :: n2 :: ts) listed = true) (h : wpOp P ops Q n (fun a' w' => S w' ∧ wpList P ops Q l a' w') a w) : anyM P md ops Q (Ask n n2 w0 S) (l.length + 1) listed a w := by
  simp only [ordB, Bool.and_eq_true, decide_eq_true_eq] at hB
  obtain ⟨hB1, hB2, hB3⟩ := hB
  refine ⟨fun h1 => (by rw [hB1] at h1; cases h1), fun i hi => ?_⟩
  rw [hB1] at hi
  have hik : i = n := by simpa using hi
  subst hik
  have hg : ∀ d, (listed.setIfInBounds i true).getD i d = true := fun d => by simp [hn]
  refine wpOp_mono (fun a' w' h' => ⟨⟨fun h0 => (by rw [hg] at h0; cases h0), fun _ => h'.1⟩, ?_⟩) h
  cases l with
  | nil => cases hl
  | cons o2 l =>
    simp only [List.map_cons, List.cons.injEq] at hl
    refine ⟨fun h1 => (by rw [hB2] at h1; cases h1), fun j hj => ?_⟩
    rw [hB2] at hj
    have hjk : j = n2 := by simpa using hj
    subst hjk
    have hw : wpOp P ops Q j (wpList P ops Q l) a' w' := by unfold wpOp; simp only [hl.1]; exact h'.2
    have hg1 : ∀ d, ((listed.setIfInBounds i true).setIfInBounds j true).getD i d = true := fun d => by rw [getD_set_ne d (Ne.symm hne)]; exact hg d
    have hg2 : ∀ d, ((listed.setIfInBounds i true).setIfInBounds j true).getD j d = true := fun d => by simp [hn2]
    refine wpOp_mono (fun a2 w2 h2 => ?_) hw
    have hask : ∀ (listed : Array Bool) (w : World), (∀ d, listed.getD i d = true ∧ listed.getD j d = true) → Ask i j w0 S listed w := fun listed w hh => ⟨fun h0 => (by rw [(hh true).1] at h0; cases h0), fun h0 => (by rw [(hh true).2] at h0; cases h0)⟩
    refine ⟨hask _ _ fun d => ⟨hg1 d, hg2 d⟩, ?_⟩
    exact M_of_any (G := fun listed => ∀ d, listed.getD i d = true ∧ listed.getD j d = true) (fun listed k hh d => ⟨getD_set_in (hh true).1 (hh false).1 d, getD_set_in (hh true).2 (hh false).2 d⟩) (fun listed w hh => hask listed w hh) _ _ _ _ (fun d => ⟨hg1 d, hg2 d⟩) (any_of_ord ts l _ a2 w2 hl.2 hB3 h2)

theorem M_of_mix {n n2 : Nat} {ts : List Nat} {on : Oper} {tl : List Oper} {w : World} (hsel : Region.noSelect ops = true) (hQ : ∀ c (a a' : Act) w, Q (.panic c) a w → Q (.panic c) a' w) (hon : ops[n]? = some on) (ht : (n2 :: ts).map (fun k => ops[k]?) = tl.map some) (hS : S w) (ks : List (Bool × Nat)) :
    ∀ (l : List (Bool × Oper)) (listed : Array Bool) (a : Act), ks.map (fun k => (k.1, ops[k.2]?)) = l.map (fun o => (o.1, some o.2)) → mixB md ops n n2 ts ks listed = true →
      wpMix P ops w S (fun a' => wpOp P ops Q n (fun a' w' => S w' ∧ wpList P ops Q tl a' w') a' w) l a → anyM P md ops Q (Ask n n2 w S) (l.length + (tl.length + 1)) listed a w := by
  induction ks with
  | nil =>
    intro l listed a hl hB h
    cases l with
    | nil =>
      simp only [mixB, Bool.and_eq_true, decide_eq_true_eq] at hB
      simp only [List.length_nil, Nat.zero_add]
      exact M_of_tail on tl listed a w hon ht hB.2.1 hB.2.2.1 hB.2.2.2 hB.1 h
    | cons => cases hl
  | cons bk ks ih =>
    intro l listed a hl hB h
    cases l with
    | nil => cases hl
    | cons bo l =>
      obtain ⟨b, k⟩ := bk
      obtain ⟨b', o⟩ := bo
      simp only [List.map_cons, List.cons.injEq, Prod.mk.injEq] at hl
      obtain ⟨⟨rfl, hko⟩, hl'⟩ := hl
      simp only [mixB, Bool.and_eq_true, decide_eq_true_eq] at hB
      obtain ⟨⟨⟨⟨hr, hf⟩, hw, hkn, hkn2⟩, hnl⟩, hcl, hB'⟩ := hB
      have hr' : k ∈ Region.ready md ops listed := by simpa using hr
      rw [show ((b, o) :: l).length + (tl.length + 1) = l.length + (tl.length + 1) + 1 by simp only [List.length_cons]; omega]
      have hask : Ask n n2 w S listed w := ⟨fun _ => rfl, fun _ => hS⟩
      cases b with
      | true =>
        have hst : stOp P ops w k (wpMix P ops w S (fun a' => wpOp P ops Q n (fun a' w' => S w' ∧ wpList P ops Q tl a' w') a' w) l) a := by unfold stOp; simp only [hko]; exact h
        obtain ⟨v, hy, hK⟩ := yieldsAt_of_stOp hko hst
        exact anyM_first (n := n) (T := (· = w)) (Y := fun a => YieldsAt P ops w o v a) (fun a a' h h1 h2 => h.of_same h1 h2) (fun K a w' h hw' hk => (by subst hw'; exact wpOp_of_stOp (K := fun a' => K a' w') (fun _ h => h) (h.stOp hko hk)))
          hko (Region.noSelect_spec hsel) (fun c a w h => hQ c _ _ w h) (ask_set hkn hkn2) [] hw (fun listed w' h0 hd => hd.1 h0) _ listed a w (closed_of_B hcl) hnl (Region.free_spec hko hf) hr' hy hask (ih l _ _ hl' hB' hK)
      | false =>
        obtain ⟨v, hy, hK⟩ := h
        exact anyM_first (n := n2) (T := S) (Y := fun a => YieldsIf P ops S o v a) (fun a a' h h1 h2 => h.of_same h1 h2) (fun K a w' h hw' hk => h.wpOp hko hw' hk)
          hko (Region.noSelect_spec hsel) (fun c a w h => hQ c _ _ w h) (ask_set hkn hkn2) [] hw (fun listed w' h0 hd => hd.2 h0) _ listed a w (closed_of_B hcl) hnl (Region.free_spec hko hf) hr' hy hask (ih l _ _ hl' hB' hK)

/-- The operations of these numbers. -/
def pick (l : List Oper) (ks : List Nat) : List Oper := ks.filterMap fun k => l[k]?
def pickB (l : List Oper) (ks : List (Bool × Nat)) : List (Bool × Oper) := ks.filterMap fun k => (l[k.2]?).map fun o => (k.1, o)

/-- The whole region: ks first (true: it leaves the world, and n waits for it; false: it yields in every world that meets S, and n2 waits for it); then n, n2 and ts, one behind the other. -/
theorem wp_region_mix {id : Nat} {a : Act} {w : World} {l : List Oper} (S : World → Prop) (ks : List (Bool × Nat)) (n n2 : Nat) (ts : List Nat) (on : Oper) (hm : P.follows .mixedOrders = true) (hon : l.toArray[n]? = some on)
    (hh : ks.map (fun k => (k.1, l.toArray[k.2]?)) = (pickB l ks).map (fun o => (o.1, some o.2))) (ht : (n2 :: ts).map (fun k => l.toArray[k]?) = (pick l (n2 :: ts)).map some)
    (hlen : (pickB l ks).length + ((pick l (n2 :: ts)).length + 1) = l.length)
    (hB : (Region.noSelect l.toArray && mixB .any l.toArray n n2 ts ks (Array.replicate l.length false)) = true) (hS : S w.drew)
    (h : wpMix P l.toArray w.drew S (fun a' => wpOp P l.toArray (NoPanic Q) n (fun a' w' => S w' ∧ wpList P l.toArray (NoPanic Q) (pick l (n2 :: ts)) a' w') a' w.drew) (pickB l ks) a) : (Code.region id l.toArray true).wp P Q a w := by
  rw [Bool.and_eq_true] at hB
  refine wp_region_noPanic (wp_region_any hm ?_)
  have := any_of_M _ _ _ _ (M_of_mix (Q := NoPanic Q) hB.1 (fun _ _ _ _ h => h) hon ht hS ks (pickB l ks) (Array.replicate l.length false) a hh hB.2 h)
  rw [hlen] at this
  simpa using this
def Till (n : Nat) (S : World → Prop) (listed : Array Bool) (w : World) : Prop := listed.getD n true = false → S w

theorem pre_start {id n : Nat} {a : Act} {w : World} {l : List Oper} (sz : Nat) (S : World → Prop) (hm : P.follows .mixedOrders = true) (hsz : l.length = sz)
    (h : anyM P .any l.toArray (NoPanic Q) (Till n S) sz (Array.replicate sz false) a w.drew) : (Code.region id l.toArray true).wp P Q a w :=
  wp_region_noPanic (wp_region_any hm (by subst hsz; have := any_of_M _ _ _ _ h; simpa using this))

theorem pre_take {l : List Oper} {n i f : Nat} (ps : List Nat) {oi : Oper} {v : Value} {listed : Array Bool} {a : Act} {w : World} (hl : l[i]? = some oi)
    (hB : (Region.noSelect l.toArray && Region.free md l.toArray listed i && (Region.ready md l.toArray listed).contains i && pathB md l.toArray n ps i && decide (i ≠ n) && decide (listed.getD n true = false) && closedB md l.toArray listed) = true)
    (hy : YieldsIf P l.toArray S oi v a) (hS : S w) (h : anyM P md l.toArray (NoPanic Q) (Till n S) f (listed.setIfInBounds i true) (a.put oi.dst v) w) : anyM P md l.toArray (NoPanic Q) (Till n S) (f + 1) listed a w := by
  have hi : l.toArray[i]? = some oi := by simpa using hl
  simp only [Bool.and_eq_true, decide_eq_true_eq] at hB
  obtain ⟨⟨⟨⟨⟨⟨hsel, hf⟩, hr⟩, hw⟩, hin⟩, hnl⟩, hcl⟩ := hB
  exact anyM_first (n := n) (T := S) (Y := fun a => YieldsIf P l.toArray S oi v a) (fun a a' h h1 h2 => h.of_same h1 h2) (fun K a w' h hw' hk => h.wpOp hi hw' hk) hi (Region.noSelect_spec hsel) (fun c a w h => h)
    (fun listed w => by unfold Till; rw [getD_set_ne true hin]) ps hw (fun listed w' h0 hd => hd h0) f listed a w (closed_of_B hcl) hnl (Region.free_spec hi hf) (by simpa using hr) hy (fun _ => hS) h

/-- What is asked at a step: it is taken, S holds behind it, and so on. -/
def PreStep (P : Program) (md : Region.Mode) (ops : Array Oper) (Q : Exit → Act → World → Prop) (n : Nat) (S : World → Prop) (f : Nat) (listed : Array Bool) (a : Act) (w : World) (i : Nat) (o : Oper) : Prop :=
  ∀ K' : Act → World → Prop, (∀ a w, S w → anyM P md ops (NoPanic Q) (Till n S) f (listed.setIfInBounds i true) a w → K' a w) → if Region.wanted o (yielded ops a.tmps) = true then Oper.wp P o a w K' (NoPanic Q) else K' (a.put o.dst undef) w

theorem pre_step1 {l : List Oper} {n i f : Nat} {o : Oper} {listed : Array Bool} {a : Act} {w : World} (hr : Region.ready md l.toArray listed = [i]) (hlo : l[i]? = some o) (h : PreStep P md l.toArray Q n S f listed a w i o) :
    anyM P md l.toArray (NoPanic Q) (Till n S) (f + 1) listed a w := by
  have ho : l.toArray[i]? = some o := by simpa using hlo
  refine ⟨fun h0 => (by rw [hr] at h0; cases h0), fun j hj => ?_⟩
  rw [hr] at hj
  have hji : j = i := by simpa using hj
  subst hji
  exact wpOp_step ho (fun K' hK => h K' fun a w hs hm => hK a w ⟨fun _ => hs, hm⟩)

theorem pre_step2 {l : List Oper} {n i j f : Nat} {o o2 : Oper} {listed : Array Bool} {a : Act} {w : World} (hr : Region.ready md l.toArray listed = [i, j]) (hlo : l[i]? = some o) (hlo2 : l[j]? = some o2) (h : PreStep P md l.toArray Q n S f listed a w i o) (h2 : PreStep P md l.toArray Q n S f listed a w j o2) :
    anyM P md l.toArray (NoPanic Q) (Till n S) (f + 1) listed a w := by
  have ho : l.toArray[i]? = some o := by simpa using hlo
  have ho2 : l.toArray[j]? = some o2 := by simpa using hlo2
  refine ⟨fun h0 => (by rw [hr] at h0; cases h0), fun k hk => ?_⟩
  rw [hr] at hk
  have hk' : k = i ∨ k = j := by simpa using hk
  rcases hk' with rfl | rfl
  · exact wpOp_step ho (fun K' hK => h K' fun a w hs hm => hK a w ⟨fun _ => hs, hm⟩)
  · exact wpOp_step ho2 (fun K' hK => h2 K' fun a w hs hm => hK a w ⟨fun _ => hs, hm⟩)

/-- The operation n, and those behind it, one behind the other. -/
theorem pre_last {l : List Oper} {n f : Nat} {o : Oper} {ts : List Nat} {listed : Array Bool} {a : Act} {w : World} (hlo : l[n]? = some o) (ht : ts.map (fun k => l.toArray[k]?) = (pick l ts).map some) (hf : (pick l ts).length = f)
    (hB : (decide (Region.ready md l.toArray listed = [n]) && (ordB md l.toArray ts (listed.setIfInBounds n true) && decide (n < listed.size))) = true) (h : wpList P l.toArray (NoPanic Q) (o :: pick l ts) a w) :
    anyM P md l.toArray (NoPanic Q) (Till n S) (f + 1) listed a w := by
  simp only [Bool.and_eq_true, decide_eq_true_eq] at hB
  obtain ⟨hr, hB, hn⟩ := hB
  have ho : l.toArray[n]? = some o := by simpa using hlo
  subst hf
  have hg : ∀ d, (listed.setIfInBounds n true).getD n d = true := fun d => by simp [hn]
  refine ⟨fun h0 => (by rw [hr] at h0; cases h0), fun j hj => ?_⟩
  rw [hr] at hj
  have hji : j = n := by simpa using hj
  subst hji
  have hw : wpOp P l.toArray (NoPanic Q) j (wpList P l.toArray (NoPanic Q) (pick l ts)) a w := by unfold wpOp; simp only [ho]; exact h
  refine wpOp_mono (fun a2 w2 h2 => ⟨fun h0 => (by rw [hg] at h0; cases h0), ?_⟩) hw
  exact M_of_any (G := fun listed => ∀ d, listed.getD j d = true) (fun listed k hh d => getD_set_in (hh true) (hh false) d) (fun listed w hh h0 => (by rw [hh true] at h0; cases h0)) _ _ _ _ hg (any_of_ord ts (pick l ts) _ a2 w2 ht hB h2)
end
end Go.Proofs.Ytekoogedhmhpgaa

