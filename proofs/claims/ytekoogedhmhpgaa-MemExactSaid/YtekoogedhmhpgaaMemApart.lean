/- The walk of the law MemApart. -/
import Derived.Test.YtekoogedhmhpgaaMem4
import Derived.Test.YtekoogedhmhpgaaKmem
namespace Go.Proofs.Ytekoogedhmhpgaa
open Go.RowKit Go.Proofs.YtekoogedhmhpgaaW.PrintWords

set_option maxHeartbeats 400000 in
set_option maxRecDepth 100000 in
theorem wakes2 (w : World) : Calls Try.prog 17 #[] w fun e w' => e = .returned (.bool true) ∧ Below w.heap.size w w' := by
  go_enter Try.func17, Try.ntmps17
  go_wp2_with (first | (go_at_call 11; refine (new_ok _ _ (by omega) (by omega)).mono ?_; rintro e w1 ⟨rfl, hm1, hb1⟩; have H1 := Lib.hid hm1; have B1 := Lib.hid hb1; clear hm1 hb1) | (go_at_call 12; go_in))
  refine (store_any _ _ _ _ _ _ _ _ H1.out ⟨by decide, by decide⟩ (by decide) (by decide) (by decide) (by decide) (by decide)).mono ?_
  rintro e w2 ⟨rfl, hm2, hk2⟩
  have H2 := Lib.hid hm2
  have B2 := Lib.hid (Keep.fresh B1.out B1.out.size hk2 (fun i e => by omega))
  clear hm2 hk2
  go_wp2_with (go_at_call 12; go_in)
  refine (load_any _ _ _ _ _ _ _ H2.out ⟨by decide, by decide⟩ (by decide) (by decide)).mono ?_
  rintro e w3 ⟨rfl, rfl⟩
  rw [show canon 7 (le (fun i => laid (fun _ => 0) 18446744073709551614 (Int.toNat 4096) (nbytes 3).toNat ((Int.toNat 4096) + i)) (nbytes 7).toNat) = 65534 from by decide]
  go_wp2_with (first | (go_at_call 19; refine (size_ok _ _ _ _ _ H2.out).mono ?_; rintro e w4 ⟨rfl, rfl⟩) | (go_at_call 12; go_in))
  go_ret
  exact ⟨rfl, B2.out⟩

set_option maxHeartbeats 400000 in
theorem num2 (x : Int) (w : World) : Calls Try.prog 12 #[.int .i64 x] w fun e w' => e = .returned (.int .i64 x) ∧ w = w' := by
  go_enter Try.func12, Try.ntmps12
  go_wp2
  go_ret
  exact ⟨rfl, rfl⟩

/-- The numbers of an Op are of their kinds. -/
structure OpWf (x : S32) : Prop where
  d : -9223372036854775808 ≤ x.f0 ∧ x.f0 ≤ 9223372036854775807
  k : -9223372036854775808 ≤ x.f1 ∧ x.f1 ≤ 9223372036854775807
  n : -9223372036854775808 ≤ x.f2 ∧ x.f2 ≤ 9223372036854775807
  a : 0 ≤ x.f3 ∧ x.f3 < 18446744073709551616
  xx : 0 ≤ x.f4 ∧ x.f4 < 18446744073709551616
  b : ∀ c ∈ x.f5, 0 ≤ c ∧ c ≤ 255
  len : x.f5.length ≤ 140737488351232
theorem opWf_rd {l : List S32} (h : ∀ x ∈ l, OpWf x) {i : Int} (h0 : 0 ≤ i) (h1 : i < l.length) : OpWf (rd_T32 l i) := by
  unfold rd_T32
  rw [List.getD_eq_getElem?_getD, List.getElem?_eq_getElem (show i.toNat < l.length by omega)]
  exact h _ (List.getElem_mem _)

theorem kind11 (x : Int) : 1 ≤ wrap64 (1 + wrap64 ((IntKind.u64.wrap x).tmod 11)) ∧ wrap64 (1 + wrap64 ((IntKind.u64.wrap x).tmod 11)) ≤ 11 := by
  rw [IntKind.wrap_u64, tmod_of_emod]
  unfold wrap64
  omega

theorem nbytes_bd {k : Int} (h : 1 ≤ k ∧ k ≤ 11) : 1 ≤ nbytes k ∧ nbytes k ≤ 8 := by
  rcases nbytes_of h with e | e | e | e <;> omega

theorem word_mod {K X : Int} (hk : 1 ≤ K ∧ K ≤ 11) (hX1 : 0 ≤ X) (hX2 : X < 18446744073709551616) (hw : isWord K X = true) : canon K (X % 256 ^ (nbytes K).toNat) = X := by
  rw [canon_mod hk, Int.emod_eq_of_lt hX1 hX2]
  exact (isWord_kind hw).2
theorem apart_val (G : Nat → Int) {K X Y : Int} {a b q : Nat} (hk : 1 ≤ K ∧ K ≤ 11) (hX1 : 0 ≤ X) (hX2 : X < 18446744073709551616) (hw : isWord K X = true) (h : a + (nbytes K).toNat ≤ b ∨ b + q ≤ a) (_ : 0 ≤ nbytes K) (_ : 0 ≤ q) :
    canon K (le (fun i => laid (laid G X a (nbytes K).toNat) Y b q (a + i)) (nbytes K).toNat) = X := by
  rw [le_apart _ _ _ _ _ _ (by omega), le_laid]
  exact word_mod hk hX1 hX2 hw
theorem last_val (G : Nat → Int) {K X : Int} (a : Nat) (hk : 1 ≤ K ∧ K ≤ 11) (hX1 : 0 ≤ X) (hX2 : X < 18446744073709551616) (hw : isWord K X = true) :
    canon K (le (fun i => laid G X a (nbytes K).toNat (a + i)) (nbytes K).toNat) = X := by
  rw [le_laid]
  exact word_mod hk hX1 hX2 hw
theorem low_val (G : Nat → Int) (X : Int) (a m : Nat) (hm : 1 ≤ m) : canon 6 (le (fun i => laid G X a m (a + i)) 1) = X % 256 := by
  rw [le_1]
  unfold laid
  rw [if_pos (by omega)]
  simp [canon, byteOf]
theorem le_zero (k : Nat) : le (fun _ => 0) k = 0 := by
  induction k with
  | zero => rfl
  | succ k ih => simp [le, ih]
theorem zero_val (K : Int) (m : Nat) : canon K (le (fun _ => 0) m) = 0 := by
  rw [le_zero]
  unfold canon
  repeat' split
  all_goals rfl

theorem and255 {x : Int} (h0 : 0 ≤ x) (h1 : x < 18446744073709551616) : bits .and .u64 x 255 = x % 256 := by
  rw [u64_and _ _ h0 h1 (by omega) (by omega), show (255 : Int).toNat = 2 ^ 8 - 1 from rfl, Nat.and_two_pow_sub_one_eq_mod]
  omega

theorem new_ex (z : Int) (w : World) (h0 : 8192 ≤ z) (h1 : z ≤ 1048576) :
    Calls Try.prog 11 #[.int .i64 z] w fun e w' => ∃ g d, e = .returned (.tuple #[.pointer (some ⟨g, 0, none⟩), .int .i64 0]) ∧ MemAt w' g d z.toNat (fun _ => 0) ∧ w.heap.size ≤ g ∧ w.heap.size ≤ d ∧ Below w.heap.size w w' :=
  (new_ok z w h0 h1).mono fun _ _ ⟨he, hm, hb⟩ => ⟨_, _, he, hm, by omega, Nat.le_refl _, hb⟩

set_option maxHeartbeats 4000000 in
set_option maxRecDepth 100000 in
theorem memApart_walk (A : Option Addr) (cap : Nat) (l : List S32) (w : World) (hl : Kd.C k32 w A l.length l) (hwf : ∀ x ∈ l, OpWf x) :
    Calls Try.prog 3 #[.slice A l.length cap] w fun e w' => e = .returned (.bool true) ∧ Below w.heap.size w w' := by
  have HL := Lib.hid hl
  clear hl
  go_enter Try.func3, Try.ntmps3
  go_wp2_with fail
  refine (new_ex _ _ (by omega) (by omega)).mono ?_
  rintro e w1 ⟨g1, d1, rfl, hm1, hg1, hd1, hb1⟩
  have H1 := Lib.hid hm1
  have B1 := Lib.hid hb1
  clear hm1 hb1
  go_wp2_with fail
  refine (new_ex _ _ (by omega) (by omega)).mono ?_
  rintro e w2 ⟨g2, d2, rfl, hm2, hg2, hd2, hb2⟩
  have H2 := Lib.hid hm2
  have B2 := Lib.hid (Keep.fresh (S := fun _ => False) B1.out B1.out.size (Keep.of_below hb2) (fun i e => e.elim))
  have M1 := Lib.hid (H1.out.keep (S := fun _ => False) (Keep.of_below hb2) (fun e => e) (fun e => e))
  have ne1 : g1 < w1.heap.size := H1.out.lt
  have ne2 : d1 < w1.heap.size := H1.out.row.lt
  clear hm2 hb2 H1 B1
  go_wp2_with (go_at_call 12; refine (num2 _ _).mono ?_; rintro e w' ⟨rfl, rfl⟩)
  go_loopw [7] (fun i wr => ∃ k : Nat, k ≤ 100 ∧ i = .int .i64 k ∧ Hid (∃ G, MemAt wr g1 d1 (Int.toNat 8192) G) ∧ Hid (MemAt wr g2 d2 (Int.toNat 8192) fun _ => 0) ∧ Hid (Below w.heap.size w wr)) (fun i _ => 100 - (intOf i).toNat)
  case atStart => exact ⟨0, by omega, rfl, Lib.hid ⟨_, M1.out⟩, H2, B2⟩
  case round =>
    obtain ⟨k, hk, rfl, HG, H2, B2⟩ := hrel
    clear M1
    obtain ⟨G, hG⟩ := HG.out
    have M1 := Lib.hid hG
    clear hG HG
    by_cases hlt : k + 1 < l.length ∧ k < 100
    · obtain ⟨hlt, hk100⟩ := hlt
      have HC := Kd.C_below HL.out B2.out
      obtain ⟨ad, A5, c5, rfl, c0, ca1, c2, ca3, ca4, c5_, c6, c7⟩ := at_T32 HC k (by omega) (by omega)
      clear c0 c2 c5_ c6 c7
      obtain ⟨ad', A5', c5', he, c0, cb1, c2, cb3, cb4, c5_, c6, c7⟩ := at_T32 HC ((k : Int) + 1) (by omega) (by omega)
      clear c0 c2 c5_ c6 c7
      obtain rfl : ad = ad' := by injection he
      have e1 := opWf_rd hwf (i := k) (by omega) (by omega)
      have e2 := opWf_rd hwf (i := (k : Int) + 1) (by omega) (by omega)
      obtain ⟨hk0, hk1⟩ := e1.k
      obtain ⟨ha0, ha1⟩ := e1.a
      obtain ⟨hx0, hx1⟩ := e1.xx
      obtain ⟨hj0, hj1⟩ := e2.k
      obtain ⟨hb0, hb1⟩ := e2.a
      obtain ⟨hy0, hy1⟩ := e2.xx
      clear e1 e2 HC he hwf
      generalize (rd_T32 l k).f1 = K0 at *
      generalize (rd_T32 l k).f3 = A0 at *
      generalize (rd_T32 l k).f4 = X0 at *
      generalize (rd_T32 l ((k : Int) + 1)).f1 = J0 at *
      generalize (rd_T32 l ((k : Int) + 1)).f3 = D0 at *
      generalize (rd_T32 l ((k : Int) + 1)).f4 = Y0 at *
      rw [Int.toNat_natCast] at ca1 ca3 ca4
      rw [show ((k : Int) + 1).toNat = k + 1 from by omega] at cb1 cb3 cb4
      go_wp2_with fail
      have hKb := kind11 K0
      generalize wrap64 (1 + wrap64 ((IntKind.u64.wrap K0).tmod 11)) = K at *
      obtain ⟨hK1, hK2⟩ := hKb
      refine (ref1_Canon _ _ _ hx0 hx1).mono ?_
      rintro e w' ⟨rfl, rfl⟩
      have hX := canon_bd K X0 hx0 hx1
      have hXw := Lib.hid (canon_isWord (x := X0) ⟨hK1, hK2⟩)
      generalize canon K X0 = X at *
      obtain ⟨hX1, hX2⟩ := hX
      go_wp2_with fail
      have hJb := kind11 J0
      generalize wrap64 (1 + wrap64 ((IntKind.u64.wrap J0).tmod 11)) = J at *
      obtain ⟨hJ1, hJ2⟩ := hJb
      refine (ref1_Canon _ _ _ hy0 hy1).mono ?_
      rintro e w' ⟨rfl, rfl⟩
      have hY := canon_bd J Y0 hy0 hy1
      have hYw := Lib.hid (canon_isWord (x := Y0) ⟨hJ1, hJ2⟩)
      generalize canon J Y0 = Y at *
      obtain ⟨hY1, hY2⟩ := hY
      clear ca1 ca3 ca4 cb1 cb3 cb4 hk0 hk1 hj0 hj1 hx0 hx1 hy0 hy1
      go_wp2_with fail
      have hab : 4096 ≤ 4096 + A0 % 4000 ∧ 4096 + A0 % 4000 ≤ 8095 := by omega
      generalize 4096 + A0 % 4000 = a at *
      have hbb : 4096 ≤ 4096 + D0 % 4000 ∧ 4096 + D0 % 4000 ≤ 8095 := by omega
      generalize 4096 + D0 % 4000 = b at *
      obtain ⟨ha1, ha2⟩ := hab
      obtain ⟨hb1, hb2⟩ := hbb
      have hp := nbytes_bd (k := K) ⟨hK1, hK2⟩
      have hq := nbytes_bd (k := J) ⟨hJ1, hJ2⟩
      obtain ⟨hp1, hp2⟩ := hp
      obtain ⟨hq1, hq2⟩ := hq
      refine (store_any _ _ _ _ _ _ _ _ M1.out ⟨hK1, hK2⟩ hX1 hX2 hXw.out ha1 (by show a + nbytes K ≤ 8192; omega)).mono ?_
      rintro e w3 ⟨rfl, hm3, hk3⟩
      have M3 := Lib.hid hm3
      have N3 := Lib.hid (H2.out.keep hk3 (by omega) (by omega))
      have B3 := Lib.hid (Keep.fresh B2.out B2.out.size hk3 (fun i e => by omega))
      clear hm3 hk3 H2 B2 M1
      go_wp2_with (go_at_call 12; refine (num2 _ _).mono ?_; rintro e w' ⟨rfl, rfl⟩)
      refine (store_any _ _ _ _ _ _ _ _ M3.out ⟨hJ1, hJ2⟩ hY1 hY2 hYw.out hb1 (by show b + nbytes J ≤ 8192; omega)).mono ?_
      rintro e w4 ⟨rfl, hm4, hk4⟩
      have M4 := Lib.hid hm4
      have N4 := Lib.hid (N3.out.keep hk4 (by omega) (by omega))
      have B4 := Lib.hid (Keep.fresh B3.out B3.out.size hk4 (fun i e => by omega))
      clear hm4 hk4 N3 B3 M3
      have V1 : a + nbytes K ≤ b ∨ b + nbytes J ≤ a → Hid (canon K (le (fun i => laid (laid G X a.toNat (nbytes K).toNat) Y b.toNat (nbytes J).toNat (a.toNat + i)) (nbytes K).toNat) = X) := fun h => Lib.hid (apart_val G ⟨hK1, hK2⟩ hX1 hX2 hXw.out (by omega) (by omega) (by omega))
      have V2 := Lib.hid (last_val (laid G X a.toNat (nbytes K).toNat) b.toNat ⟨hJ1, hJ2⟩ hY1 hY2 hYw.out)
      have V3 := Lib.hid (low_val (laid G X a.toNat (nbytes K).toNat) Y b.toNat (nbytes J).toNat (by omega))
      have V4 := Lib.hid (zero_val K (nbytes K).toNat)
      have hcases : a + nbytes K ≤ b ∨ (b < a + nbytes K ∧ b + nbytes J ≤ a) ∨ (b < a + nbytes K ∧ a < b + nbytes J) := by omega
      have V1' : (∃ v, Hid (canon K (le (fun i => laid (laid G X a.toNat (nbytes K).toNat) Y b.toNat (nbytes J).toNat (a.toNat + i)) (nbytes K).toNat) = v) ∧ (a + nbytes K ≤ b ∨ b + nbytes J ≤ a → Hid (v = X))) := ⟨_, Lib.hid rfl, V1⟩
      obtain ⟨v, V0, Vx⟩ := V1'
      clear V1
      have hand := and255 hY1 hY2
      rcases hcases with hc1 | ⟨hc1, hc2⟩ | ⟨hc1, hc2⟩
      · obtain rfl := (Vx (by omega)).out
        clear Vx
        go_wp2_with (first | (go_at_call 12; refine (num2 _ _).mono ?_; rintro e w' ⟨rfl, rfl⟩) | (go_at_call 15; refine (ref1_Bytes _ _).mono ?_; rintro e w' ⟨rfl, rfl⟩))
        refine (load_any _ _ _ _ _ _ _ M4.out ⟨hK1, hK2⟩ ha1 (by show a + nbytes K ≤ 8192; omega)).mono ?_
        rintro e w' ⟨rfl, rfl⟩
        rw [V0.out]
        go_wp2_with fail
        refine (load_any _ _ _ _ _ _ _ M4.out ⟨hJ1, hJ2⟩ hb1 (by show b + nbytes J ≤ 8192; omega)).mono ?_
        rintro e w' ⟨rfl, rfl⟩
        rw [V2.out]
        go_wp2_with (go_at_call 12; refine (num2 _ _).mono ?_; rintro e w' ⟨rfl, rfl⟩)
        refine (load_any _ _ _ _ _ _ _ M4.out ⟨by omega, by omega⟩ hb1 (by show b + 1 ≤ 8192; omega)).mono ?_
        rintro e w' ⟨rfl, rfl⟩
        rw [show (nbytes 6).toNat = 1 from rfl, V3.out]
        go_wp2_with (go_at_call 12; refine (num2 _ _).mono ?_; rintro e w' ⟨rfl, rfl⟩)
        refine (load_any _ _ _ _ _ _ _ N4.out ⟨hK1, hK2⟩ ha1 (by show a + nbytes K ≤ 8192; omega)).mono ?_
        rintro e w' ⟨rfl, rfl⟩
        rw [V4.out]
        go_wp2_with (go_at_call 12; refine (num2 _ _).mono ?_; rintro e w' ⟨rfl, rfl⟩)
        go_roundw
        case rel => exact ⟨k + 1, by omega, by go_num, Lib.hid ⟨_, M4.out⟩, N4, B4⟩
        case measure => simp [intOf]; omega
      · obtain rfl := (Vx (by omega)).out
        clear Vx
        go_wp2_with (first | (go_at_call 12; refine (num2 _ _).mono ?_; rintro e w' ⟨rfl, rfl⟩) | (go_at_call 15; refine (ref1_Bytes _ _).mono ?_; rintro e w' ⟨rfl, rfl⟩))
        refine (load_any _ _ _ _ _ _ _ M4.out ⟨hK1, hK2⟩ ha1 (by show a + nbytes K ≤ 8192; omega)).mono ?_
        rintro e w' ⟨rfl, rfl⟩
        rw [V0.out]
        go_wp2_with fail
        refine (load_any _ _ _ _ _ _ _ M4.out ⟨hJ1, hJ2⟩ hb1 (by show b + nbytes J ≤ 8192; omega)).mono ?_
        rintro e w' ⟨rfl, rfl⟩
        rw [V2.out]
        go_wp2_with (go_at_call 12; refine (num2 _ _).mono ?_; rintro e w' ⟨rfl, rfl⟩)
        refine (load_any _ _ _ _ _ _ _ M4.out ⟨by omega, by omega⟩ hb1 (by show b + 1 ≤ 8192; omega)).mono ?_
        rintro e w' ⟨rfl, rfl⟩
        rw [show (nbytes 6).toNat = 1 from rfl, V3.out]
        go_wp2_with (go_at_call 12; refine (num2 _ _).mono ?_; rintro e w' ⟨rfl, rfl⟩)
        refine (load_any _ _ _ _ _ _ _ N4.out ⟨hK1, hK2⟩ ha1 (by show a + nbytes K ≤ 8192; omega)).mono ?_
        rintro e w' ⟨rfl, rfl⟩
        rw [V4.out]
        go_wp2_with (go_at_call 12; refine (num2 _ _).mono ?_; rintro e w' ⟨rfl, rfl⟩)
        go_roundw
        case rel => exact ⟨k + 1, by omega, by go_num, Lib.hid ⟨_, M4.out⟩, N4, B4⟩
        case measure => simp [intOf]; omega
      · clear Vx
        go_wp2_with (first | (go_at_call 12; refine (num2 _ _).mono ?_; rintro e w' ⟨rfl, rfl⟩) | (go_at_call 15; refine (ref1_Bytes _ _).mono ?_; rintro e w' ⟨rfl, rfl⟩))
        refine (load_any _ _ _ _ _ _ _ M4.out ⟨hK1, hK2⟩ ha1 (by show a + nbytes K ≤ 8192; omega)).mono ?_
        rintro e w' ⟨rfl, rfl⟩
        rw [V0.out]
        go_wp2_with fail
        refine (load_any _ _ _ _ _ _ _ M4.out ⟨hJ1, hJ2⟩ hb1 (by show b + nbytes J ≤ 8192; omega)).mono ?_
        rintro e w' ⟨rfl, rfl⟩
        rw [V2.out]
        go_wp2_with (go_at_call 12; refine (num2 _ _).mono ?_; rintro e w' ⟨rfl, rfl⟩)
        refine (load_any _ _ _ _ _ _ _ M4.out ⟨by omega, by omega⟩ hb1 (by show b + 1 ≤ 8192; omega)).mono ?_
        rintro e w' ⟨rfl, rfl⟩
        rw [show (nbytes 6).toNat = 1 from rfl, V3.out]
        go_wp2_with (go_at_call 12; refine (num2 _ _).mono ?_; rintro e w' ⟨rfl, rfl⟩)
        refine (load_any _ _ _ _ _ _ _ N4.out ⟨hK1, hK2⟩ ha1 (by show a + nbytes K ≤ 8192; omega)).mono ?_
        rintro e w' ⟨rfl, rfl⟩
        rw [V4.out]
        go_wp2_with (go_at_call 12; refine (num2 _ _).mono ?_; rintro e w' ⟨rfl, rfl⟩)
        go_roundw
        case rel => exact ⟨k + 1, by omega, by go_num, Lib.hid ⟨_, M4.out⟩, N4, B4⟩
        case measure => simp [intOf]; omega
    · have hn : ¬ ((k : Int) + 1 < l.length ∧ (k : Int) < 100) := by omega
      have hn' := Lib.hid hn
      clear hn hlt hwf
      go_wp2_with (go_at_call 17; refine (wakes2 _).mono ?_; rintro e w' ⟨rfl, hb⟩; have B5 := Lib.hid hb; clear hb)
      all_goals first
        | (go_ret; exact ⟨rfl, Keep.fresh (S := fun _ => False) B2.out B2.out.size (Keep.of_below B5.out) (fun i e => e.elim)⟩)
        | (exfalso; have := hn'.out; omega)

end Go.Proofs.Ytekoogedhmhpgaa
