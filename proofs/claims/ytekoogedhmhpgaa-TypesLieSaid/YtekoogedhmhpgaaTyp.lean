/- The contracts of package types' small functions: scalar, up, the closures of shaped. -/
import Derived.Test.YtekoogedhmhpgaaWord
import Derived.Test.YtekoogedhmhpgaaQx0
import Derived.Laws.EntriesVeiled
namespace Go.Proofs.Ytekoogedhmhpgaa
open Go.RowKit Go.Proofs.YtekoogedhmhpgaaW.PrintWords Go.Proofs.Ytekoogedhmhpgaa.Q

def entryB (k e : Int) : Bool := decide (0 ≤ k ∧ k < e)
def upN (n a : Int) : Int := (n + a - 1) / a * a
theorem upN_bd {n a : Int} (h : 1 ≤ a) : n ≤ upN n a ∧ upN n a ≤ n + a - 1 := by
  unfold upN
  have h1 := Int.emod_add_mul_ediv (n + a - 1) a
  have h2 := Int.emod_nonneg (n + a - 1) (show a ≠ 0 by omega)
  have h3 := Int.emod_lt_of_pos (n + a - 1) (show 0 < a by omega)
  rw [Int.mul_comm] at h1
  omega
theorem upN_wrap {n a : Int} (h : 1 ≤ a) (h0 : 0 ≤ n) (h1 : n + a ≤ 9223372036854775807) : wrap64 ((n + a - 1) / a * a) = upN n a := by
  have := upN_bd (n := n) h
  unfold upN at *
  unfold wrap64
  omega

set_option maxHeartbeats 400000 in
set_option maxRecDepth 100000 in
theorem scalar_ok (k : Int) (w : World) : Calls Try.prog 149 #[.int .i64 k] w fun e w' => e = .returned (.bool (decide (1 ≤ k ∧ k ≤ 11))) ∧ w = w' := by
  go_enter Try.func149, Try.ntmps149
  go_wp2
  all_goals
    go_ret
    exact ⟨ret_bool (by rw [Bool.eq_iff_iff]; simp; omega), rfl⟩

set_option maxHeartbeats 400000 in
set_option maxRecDepth 100000 in
theorem entry1_ok (k e : Int) (w : World) : Calls Try.prog 148 #[.int .i64 k, .int .i64 e] w fun en w' => en = .returned (.bool (entryB k e)) ∧ w = w' := by
  go_enter Try.func148, Try.ntmps148
  go_wp2
  all_goals
    go_ret
    exact ⟨ret_bool (by unfold entryB; rw [Bool.eq_iff_iff]; simp; try omega), rfl⟩

set_option maxHeartbeats 400000 in
set_option maxRecDepth 100000 in
theorem up_ok (n a : Int) (w : World) (h0 : 0 ≤ n) (h1 : n ≤ 4294967296) (h2 : 1 ≤ a) (h3 : a ≤ 8) : Calls Try.prog 152 #[.int .i64 n, .int .i64 a] w fun e w' => e = .returned (.int .i64 (upN n a)) ∧ w = w' := by
  go_enter Try.func152, Try.ntmps152
  go_wp2
  go_ret
  exact ⟨ret_int (upN_wrap h2 h0 (by omega)), rfl⟩

set_option maxHeartbeats 400000 in
set_option maxRecDepth 100000 in
theorem shaped2_ok (f i : Int) (b c : Nat) (w : World) (hb : w.cell? ⟨b, 0, none⟩ = some (.func (.func 148) #[] #[])) (hc : w.cell? ⟨c, 0, none⟩ = some (.int .i64 i)) :
    Calls Try.prog 151 #[.int .i64 f, .pointer (some ⟨b, 0, none⟩), .pointer (some ⟨c, 0, none⟩)] w fun e w' => e = .returned (.bool (!entryB f i)) ∧ w = w' := by
  go_enter Try.func151, Try.ntmps151
  go_wp2_with (go_at_call 148; refine (entry1_ok _ _ _).mono ?_; rintro e w' ⟨rfl, rfl⟩)
  go_ret
  exact ⟨rfl, rfl⟩

theorem shaped2_of (f i : Int) (r : Bool) (b c : Nat) (w : World) (hb : w.cell? ⟨b, 0, none⟩ = some (.func (.func 148) #[] #[])) (hc : w.cell? ⟨c, 0, none⟩ = some (.int .i64 i)) (hr : entryB f i = r) :
    Calls Try.prog 151 #[.int .i64 f, .pointer (some ⟨b, 0, none⟩), .pointer (some ⟨c, 0, none⟩)] w fun e w' => e = .returned (.bool (!r)) ∧ w = w' := hr ▸ shaped2_ok f i b c w hb hc

/-- Fields that are read. -/
def IntsAt (w : World) (A : Option Addr) (l : List Int) : Prop := (Kd.int .i64).C w A l.length l
theorem IntsAt.cell {w : World} {A : Option Addr} {bs : List Int} (h : IntsAt w A bs) (hp : 0 < bs.length) : ∃ ad, A = some ad ∧ ∀ j, j < bs.length → w.cell? (ad.add j) = some (.int .i64 (bs.getD j 0)) := by
  obtain ⟨_, _, h3⟩ := h
  obtain ⟨ad, he, hc⟩ := h3 hp
  refine ⟨ad, he, fun j hj => ?_⟩
  obtain ⟨c, h1, h2, h4⟩ := hc j bs[j] (List.getElem?_eq_getElem hj)
  have h2' : c = [.int .i64 bs[j]] := h2
  subst h2'
  have := h4 0 _ rfl
  rw [show (Kd.int .i64).sz = 1 from rfl, Nat.mul_one, Nat.add_zero] at this
  rw [this, List.getD_eq_getElem?_getD, List.getElem?_eq_getElem hj]
  rfl

/-- Where the first field that is no entry stands, from k on; -1: nowhere. -/
def noEntry (i : Int) : List Int → Nat → Int
  | [], _ => -1
  | f :: l, k => if entryB f i = true then noEntry i l (k + 1) else k

set_option maxHeartbeats 400000 in
set_option maxRecDepth 100000 in
theorem indexFunc_ok (i : Int) (b c cap : Nat) (A : Option Addr) (l : List Int) (w : World) (hA : IntsAt w A l) (hb : w.cell? ⟨b, 0, none⟩ = some (.func (.func 148) #[] #[])) (hc : w.cell? ⟨c, 0, none⟩ = some (.int .i64 i)) (hl : l.length ≤ 140737488351232) :
    Calls Try.prog 173 #[.slice A l.length cap, .func (.func 151) #[] #[.pointer (some ⟨b, 0, none⟩), .pointer (some ⟨c, 0, none⟩)]] w fun e w' => e = .returned (.int .i64 (noEntry i l 0)) ∧ w = w' := by
  have HA := Lib.hid hA
  clear hA
  go_enter Try.func173, Try.ntmps173
  go_wp2_with fail
  go_loop [8] (fun s => ∃ k : Nat, k ≤ l.length ∧ s = .int .i64 k ∧ Hid (noEntry i l 0 = noEntry i (l.drop k) k)) (fun s => l.length - (intOf s).toNat)
  case atStart => exact ⟨0, Nat.zero_le _, rfl, Lib.hid rfl⟩
  case round =>
    obtain ⟨k, hk, rfl, hN⟩ := hrel
    by_cases hlt : k < l.length
    · obtain ⟨ad, rfl, hcells⟩ := HA.out.cell (by omega)
      have hck := hcells k hlt
      have hd : l.drop k = l.getD k 0 :: l.drop (k + 1) := by
        rw [List.drop_eq_getElem_cons hlt, List.getD_eq_getElem?_getD, List.getElem?_eq_getElem hlt]
        rfl
      have hN' := hN.out
      rw [hd, noEntry] at hN'
      generalize l.getD k 0 = f at *
      have HN := Lib.hid hN'
      cases hE : entryB f i with
      | true =>
        have HE := Lib.hid hE
        clear hcells hd hN' hE hN
        go_wp2_with (go_at_call 151; refine (shaped2_of f i true b c _ hb hc HE.out).mono ?_; rintro e w' ⟨rfl, rfl⟩)
        go_round
        case rel => exact ⟨k + 1, by omega, by go_num, Lib.hid (by rw [HN.out, if_pos HE.out])⟩
        case measure => simp [intOf]; omega
      | false =>
        have HE := Lib.hid hE
        clear hcells hd hN' hE hN
        go_wp2_with (go_at_call 151; refine (shaped2_of f i false b c _ hb hc HE.out).mono ?_; rintro e w' ⟨rfl, rfl⟩)
        go_ret
        exact ⟨ret_int (by rw [HN.out, if_neg (by rw [HE.out]; exact Bool.false_ne_true)]), rfl⟩
    · have hN' := hN.out
      rw [List.drop_eq_nil_of_le (by omega), noEntry] at hN'
      have HN := Lib.hid hN'
      clear hN' hN
      go_wp2
      go_ret
      exact ⟨ret_int HN.out.symm, rfl⟩

theorem noEntry_all (i : Int) (l : List Int) : ∀ k, (noEntry i l k = -1 ∧ l.all (entryB · i) = true) ∨ (0 ≤ noEntry i l k ∧ l.all (entryB · i) = false) := by
  induction l with
  | nil => intro k; exact .inl ⟨rfl, rfl⟩
  | cons f l ih =>
    intro k
    rw [noEntry]
    cases hE : entryB f i with
    | true => simpa [hE] using ih (k + 1)
    | false => right; simp [hE]

set_option maxHeartbeats 400000 in
set_option maxRecDepth 100000 in
theorem containsFunc_ok (i : Int) (b c cap : Nat) (A : Option Addr) (l : List Int) (w : World) (hA : IntsAt w A l) (hb : w.cell? ⟨b, 0, none⟩ = some (.func (.func 148) #[] #[])) (hc : w.cell? ⟨c, 0, none⟩ = some (.int .i64 i)) (hl : l.length ≤ 140737488351232) :
    Calls Try.prog 150 #[.slice A l.length cap, .func (.func 151) #[] #[.pointer (some ⟨b, 0, none⟩), .pointer (some ⟨c, 0, none⟩)]] w fun e w' => e = .returned (.bool (!l.all (entryB · i))) ∧ w = w' := by
  have HA := Lib.hid hA
  rcases noEntry_all i l 0 with ⟨h1, h2⟩ | ⟨h1, h2⟩
  · have H1 := Lib.hid h1
    have H2 := Lib.hid h2
    clear hA h1 h2
    go_enter Try.func150, Try.ntmps150
    go_wp2_with (go_at_call 173; refine (indexFunc_ok i b c cap A l _ HA.out hb hc hl).mono ?_; rintro e w' ⟨rfl, rfl⟩; rw [H1.out])
    go_ret
    exact ⟨ret_bool (by rw [H2.out]; rfl), rfl⟩
  · have H2 := Lib.hid h2
    clear hA h2
    go_enter Try.func150, Try.ntmps150
    go_wp2_with (go_at_call 173; refine (indexFunc_ok i b c cap A l _ HA.out hb hc hl).mono ?_; rintro e w' ⟨rfl, rfl⟩)
    go_ret
    exact ⟨ret_bool (by rw [H2.out]; simp), rfl⟩

end Go.Proofs.Ytekoogedhmhpgaa
