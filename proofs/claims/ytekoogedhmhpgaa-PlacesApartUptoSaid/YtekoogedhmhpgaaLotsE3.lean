/- The contract of gantryref7.lots over a table that lies. -/
import Derived.Test.YtekoogedhmhpgaaRefLayE3
import Derived.Maps.AppendAt
namespace Go.Proofs.Ytekoogedhmhpgaa
open Go.RowKit Go.Proofs.YtekoogedhmhpgaaW.PrintWords
set_option linter.unusedVariables false

abbrev Lot := Q.S187

/-- A lot and the lie of the same entry. -/
def LotOf (x : Lot) (y : S130) : Prop :=
  x.f0.length ≤ 17 ∧ x.f1.length = x.f0.length ∧ (∀ a ∈ x.f1, 0 ≤ a ∧ a ≤ y.f0) ∧
  ((y.f2 = true ∧ x.f2 = false ∧ x.f0 = y.f3 ∧ x.f1 = y.f4 ∧ x.f0.length ≤ 16) ∨ (y.f2 = false ∧ (x.f2 = true ∨ x.f0.length = 17)))

/-- Block xb holds the cells cs; two rows of the call's own, apart. -/
structure LR (w : World) (B xb : Nat) (cs : Array Value) (vk vo : Value) (ks os : List Int) : Prop where
  blk : w.heap[xb]? = some (.cells cs 187 (0, 0))
  k : w.ownsRow B 3 1 vk ks.length (nums .i64 ks)
  o : w.ownsRow B 3 1 vo os.length (nums .i64 os)
  ko : Apart2 vk vo
namespace LR
variable {w w' : World} {B xb : Nat} {cs : Array Value} {vk vo : Value} {ks os : List Int}
theorem cell (h : LR w B xb cs vk vo ks os) (i : Nat) : w.cell? ⟨xb, i, none⟩ = cs[i]? := by simp [World.cell?, h.blk]
theorem fz (h : LR w B xb cs vk vo ks os) (i : Nat) : w.frozen? ⟨xb, i, none⟩ = false := by simp [World.frozen?, h.blk]
theorem lt (h : LR w B xb cs vk vo ks os) : xb < w.heap.size := (Array.getElem?_eq_some_iff.1 h.blk).1
theorem ne (h : LR w B xb cs vk vo ks os) : some xb ≠ vk.ownBlock ∧ some xb ≠ vo.ownBlock := ⟨own_ne h.k h.blk (by decide), own_ne h.o h.blk (by decide)⟩
theorem move (h : LR w B xb cs vk vo ks os) (hb : ∀ i, i < w.heap.size → w'.heap[i]? = w.heap[i]?) : LR w' B xb cs vk vo ks os :=
  ⟨(hb _ h.lt).trans h.blk, own_move h.k (fun i hi => hb i (own_lt h.k i hi)), own_move h.o (fun i hi => hb i (own_lt h.o i hi)), h.ko⟩
theorem alloc (h : LR w B xb cs vk vo ks os) (o : Obj) : LR (w.alloc o) B xb cs vk vo ks os := h.move fun _ hi => Below.heap_alloc _ _ _ hi
theorem drew (h : LR w B xb cs vk vo ks os) : LR w.drew B xb cs vk vo ks os := h.move fun _ _ => rfl
theorem below (h : LR w B xb cs vk vo ks os) (hb : Below w.heap.size w w') : LR w' B xb cs vk vo ks os := h.move hb.block
theorem set (h : LR w B xb cs vk vo ks os) (i : Nat) (v : Value) : LR (w.setCell ⟨xb, i, none⟩ v) B xb (cs.setIfInBounds i v) vk vo ks os :=
  ⟨by simp [World.setCell, Array.getElem?_modify, h.blk], own_setCell h.k h.ne.1 v, own_setCell h.o h.ne.2 v, h.ko⟩
theorem appK (h : LR w B xb cs vk vo ks os) {w1 : World} {v1 : Value} {s : List Int} {n : Nat} {xs : List Value} (ho : w1.ownsRow B 3 1 v1 n xs) (hn : n = (ks ++ s).length) (hx : xs = nums .i64 (ks ++ s)) (hg : w.grownBy w1 vk.ownBlock) (hat : v1.ownBlock = vk.ownBlock ∨ v1.ownBlock = some w.heap.size) :
    LR w1 B xb cs v1 vo (ks ++ s) os :=
  ⟨(hg.block xb h.lt h.ne.1).trans h.blk, (by subst hn hx; exact ho), h.o.kept hg h.ko.symm, apart_after h.ko hat h.o⟩
theorem appO (h : LR w B xb cs vk vo ks os) {w1 : World} {v1 : Value} {s : List Int} {n : Nat} {xs : List Value} (ho : w1.ownsRow B 3 1 v1 n xs) (hn : n = (os ++ s).length) (hx : xs = nums .i64 (os ++ s)) (hg : w.grownBy w1 vo.ownBlock) (hat : v1.ownBlock = vo.ownBlock ∨ v1.ownBlock = some w.heap.size) :
    LR w1 B xb cs vk v1 ks (os ++ s) :=
  ⟨(hg.block xb h.lt h.ne.2).trans h.blk, h.k.kept hg h.ko, (by subst hn hx; exact ho), (apart_after h.ko.symm hat h.k).symm⟩
end LR
/-- The lot x in block xb. -/
def LX (w : World) (B xb : Nat) (x : Lot) (vk vo : Value) : Prop := LR w B xb #[vk, vo, .bool x.f2] vk vo x.f0 x.f1
/-- The kind of a lot whose two rows are apart. -/
def kLot : Kd Lot where
  sz := Q.k187.sz
  E := Q.k187.E
  K := Q.k187.K
  M := fun w base ok x cs => Q.k187.M w base ok x cs ∧ ∃ v0 v1 v2, cs = [v0, v1, v2] ∧ Apart2 v0 v1
  K_len := Q.k187.K_len
  K_one := Q.k187.K_one
  K_below := Q.k187.K_below
  K_of_M := fun h => Q.k187.K_of_M h.1
  M_mono := fun hok h => ⟨Q.k187.M_mono hok h.1, h.2⟩
  M_bound := fun h => ⟨Q.k187.M_bound h.1, h.2⟩
  M_move := fun hm h => ⟨Q.k187.M_move hm h.1, h.2⟩
  M_lower := fun hb h => ⟨Q.k187.M_lower hb h.1, h.2⟩
theorem kLot_C {w : World} {A : Option Addr} {n : Nat} {xs : List Lot} (h : kLot.C w A n xs) : Q.k187.C w A n xs := h
theorem LX.M {w : World} {B xb : Nat} {x : Lot} {vk vo : Value} (h : LX w B xb x vk vo) : kLot.M w B (fun _ => True) x [vk, vo, .bool x.f2] :=
  ⟨Q.k187_mkM _ _ _ _ (Kd.R_of_own h.k (fun _ _ => trivial)) (Kd.R_of_own h.o (fun _ _ => trivial)), _, _, _, rfl, h.ko⟩
theorem LX.facts {w : World} {B xb : Nat} {x : Lot} {vk vo : Value} (h : LX w B xb x vk vo) :
    w.cell? ⟨xb, 0, none⟩ = some vk ∧ w.cell? ⟨xb, 1, none⟩ = some vo ∧ w.cell? ⟨xb, 2, none⟩ = some (.bool x.f2) ∧ w.frozen? ⟨xb, 0, none⟩ = false ∧ w.frozen? ⟨xb, 1, none⟩ = false ∧ w.frozen? ⟨xb, 2, none⟩ = false :=
  ⟨LR.cell h 0, LR.cell h 1, LR.cell h 2, LR.fz h 0, LR.fz h 1, LR.fz h 2⟩
theorem LX.new (w : World) : LX (w.alloc (.cells #[.slice none 0 0, .slice none 0 0, .bool false] 187)) w.heap.size w.heap.size ⟨[], [], false⟩ (.slice none 0 0) (.slice none 0 0) :=
  ⟨Deep.blk_alloc_new _ _, own_nil _ _ _ _, own_nil _ _ _ _, .inl rfl⟩
theorem LX.set2 {w : World} {B xb : Nat} {x : Lot} {vk vo : Value} (h : LX w B xb x vk vo) (b : Bool) : LX (w.setCell ⟨xb, 2, none⟩ (.bool b)) B xb { x with f2 := b } vk vo := by
  have := LR.set h 2 (.bool b)
  simpa [LX] using this
theorem LX.newb (w : World) (b : Bool) : LX (w.alloc (.cells #[.slice none 0 0, .slice none 0 0, .bool b] 187)) w.heap.size w.heap.size ⟨[], [], b⟩ (.slice none 0 0) (.slice none 0 0) :=
  ⟨Deep.blk_alloc_new _ _, own_nil _ _ _ _, own_nil _ _ _ _, .inl rfl⟩
theorem lotInfo : (Try.prog.info? 187).map (fun i => (i.zero, i.size, i.bytes)) = some (some (.agg #[.slice none 0 0, .slice none 0 0, .bool false]), 3, 56) := by kernel_rfl

/-- The lots of the entries below k. -/
def LotsTo (t : List Q.S124) (ls : List S130) (l : List Lot) (k : Nat) : Prop := l.length = k ∧ ∀ j : Nat, j < k → LotOf (Q.rd_T187 l j) (rd_T130 ls j)

theorem kind_cases (K : Int) : K = 12 ∨ K = 14 ∨ K = 15 ∨ K = 13 ∨ (K ≠ 12 ∧ K ≠ 14 ∧ K ≠ 15 ∧ K ≠ 13) := by omega
theorem lot_array {ls l : List S130} {k E N : Int} {F : List Int} (h : rd_T130 l k = oneL ls 12 E N F) : LotOf ⟨[], [], true⟩ (rd_T130 l k) := by
  rw [h]
  exact ⟨by simp, rfl, by simp, .inr ⟨rfl, .inl rfl⟩⟩
theorem newsL (W : World) (xs : List Int) (t : TypeId) : ∀ j u, (nums .i64 xs)[j]? = some u → (W.alloc (.cells (nums .i64 xs).toArray t)).cell? ((⟨W.heap.size, 0, none⟩ : Addr).add j) = some u := by
  intro j u h
  have h2 := lblk_cell (Deep.blk_alloc_new W (.cells (nums .i64 xs).toArray t)) j
  have h3 : (⟨W.heap.size, 0, none⟩ : Addr).add j = ⟨W.heap.size, j, none⟩ := by
    unfold Addr.add
    split
    · simp_all
    · simp
  rw [h3, h2]
  simpa using h
theorem nums_one (xs : List Int) : ∀ u ∈ nums .i64 xs, u.oneCell' = true := by
  intro u hu
  simp only [nums, List.mem_map] at hu
  obtain ⟨_, _, rfl⟩ := hu
  rfl
theorem LX.appK {w w1 : World} {B xb n : Nat} {x : Lot} {vk vo v1 : Value} {s : List Int} {xs : List Value} {o : Obj} (h : LX w B xb x vk vo) (ho : w1.ownsRow B 3 1 v1 n xs) (hn : n = (x.f0 ++ s).length) (hx : xs = nums .i64 (x.f0 ++ s)) (hg : (w.alloc o).grownBy w1 vk.ownBlock) (hat : v1.ownBlock = vk.ownBlock ∨ v1.ownBlock = some (w.alloc o).heap.size) :
    LR w1 B xb #[vk, vo, .bool x.f2] v1 vo (x.f0 ++ s) x.f1 := LR.appK (LR.alloc h o) ho hn hx hg hat
theorem LX.appO {w w1 : World} {B xb n : Nat} {x : Lot} {vk vo v1 : Value} {s : List Int} {xs : List Value} {o : Obj} (h : LX w B xb x vk vo) (ho : w1.ownsRow B 3 1 v1 n xs) (hn : n = (x.f1 ++ s).length) (hx : xs = nums .i64 (x.f1 ++ s)) (hg : (w.alloc o).grownBy w1 vo.ownBlock) (hat : v1.ownBlock = vo.ownBlock ∨ v1.ownBlock = some (w.alloc o).heap.size) :
    LR w1 B xb #[vk, vo, .bool x.f2] vk v1 x.f0 (x.f1 ++ s) := LR.appO (LR.alloc h o) ho hn hx hg hat
theorem LX.setK {w : World} {B xb : Nat} {x : Lot} {vk vo v1 : Value} {s : List Int} (h : LR w B xb #[vk, vo, .bool x.f2] v1 vo (x.f0 ++ s) x.f1) : LX (w.setCell ⟨xb, 0, none⟩ v1) B xb ⟨x.f0 ++ s, x.f1, x.f2⟩ v1 vo := by
  have := LR.set h 0 v1
  simpa [LX] using this
theorem LX.setO {w : World} {B xb : Nat} {x : Lot} {vk vo v1 : Value} {s : List Int} (h : LR w B xb #[vk, vo, .bool x.f2] vk v1 x.f0 (x.f1 ++ s)) : LX (w.setCell ⟨xb, 1, none⟩ v1) B xb ⟨x.f0, x.f1 ++ s, x.f2⟩ vk v1 := by
  have := LR.set h 1 v1
  simpa [LX] using this
theorem lot_pair {ls l : List S130} {k K E N : Int} {F : List Int} (hK : K = 14 ∨ K = 15) (h : rd_T130 l k = oneL ls K E N F) : LotOf ⟨[11, 5], [0, 8], false⟩ (rd_T130 l k) := by
  rw [h, show oneL ls K E N F = ⟨16, 8, true, [11, 5], [0, 8], []⟩ from if_pos hK]
  exact ⟨by simp, rfl, by simp, .inl ⟨rfl, rfl, rfl, rfl, by simp⟩⟩
theorem nbytes_nn (K : Int) : 0 ≤ nbytes K := by
  unfold nbytes
  repeat' split
  all_goals omega
theorem lot_one {ls l : List S130} {k K E N : Int} {F : List Int} (hK : K ≠ 12 ∧ K ≠ 14 ∧ K ≠ 15 ∧ K ≠ 13) (h : rd_T130 l k = oneL ls K E N F) : LotOf ⟨[K], [0], false⟩ (rd_T130 l k) := by
  rw [h, show oneL ls K E N F = ⟨nbytes K, nbytes K, true, [K], [0], []⟩ by unfold oneL; rw [if_neg (by omega), if_neg (by omega), if_neg (by omega)]]
  exact ⟨by simp, rfl, by simp [nbytes_nn], .inl ⟨rfl, rfl, rfl, rfl, by simp⟩⟩
theorem lot_nil (ls : List S130) : LotOf ⟨[], [], false⟩ (foldL ls []) := ⟨by simp, rfl, by simp, .inl ⟨rfl, rfl, rfl, rfl, by simp⟩⟩
/-- A field's words are taken over, as many as there is room for. -/
theorem lot_step {x yl : Lot} {y l : S130} (hx : LotOf x y) (hy : LotOf yl l) (hl : LieGood l) (hyn : 0 ≤ y.f0) {q : Nat} (hq : q ≤ yl.f0.length) (h17 : x.f0.length + q ≤ 17) (he : q = yl.f0.length ∨ x.f0.length + q = 17) :
    LotOf ⟨x.f0 ++ yl.f0.take q, x.f1 ++ (yl.f1.take q).map (upN y.f0 l.f1 + ·), x.f2 || yl.f2⟩ (stepL y l) := by
  obtain ⟨x1, x2, x3, x4⟩ := hx
  obtain ⟨y1, y2, y3, y4⟩ := hy
  have hu := upN_bd (n := y.f0) (a := l.f1) (by have := hl.ok.align; omega)
  have hs := hl.ok.size
  have e1 : (x.f0 ++ yl.f0.take q).length = x.f0.length + q := by rw [List.length_append, List.length_take]; omega
  have e2 : (x.f1 ++ (yl.f1.take q).map (upN y.f0 l.f1 + ·)).length = x.f0.length + q := by rw [List.length_append, List.length_map, List.length_take]; omega
  refine ⟨by simp only; omega, by simp only; omega, ?_, ?_⟩
  · intro a ha
    simp only [stepL] at ha ⊢
    rcases List.mem_append.1 ha with ha | ha
    · have := x3 a ha; omega
    · obtain ⟨b, hb, rfl⟩ := List.mem_map.1 ha
      have := y3 b (List.mem_of_mem_take hb)
      omega
  · simp only [stepL]
    rcases x4 with ⟨a1, a2, a3, a4, a5⟩ | ⟨a1, a2⟩
    · rcases y4 with ⟨b1, b2, b3, b4, b5⟩ | ⟨b1, b2⟩
      · by_cases hc : y.f3.length + l.f3.length ≤ 16
        · left
          have hq2 : q = yl.f0.length := by
            rcases he with he | he
            · exact he
            · rw [← a3, ← b3] at hc; omega
          have hq3 : q = yl.f1.length := by omega
          simp only [a1, b1, hc, decide_true, Bool.and_self, if_true, a2, b2, Bool.or_self]
          refine ⟨trivial, trivial, ?_, ?_, by rw [e1]; rw [← a3, ← b3] at hc; omega⟩
          · rw [hq2, List.take_length, a3, b3]
          · rw [hq3, List.take_length, a4, b4]
        · right
          simp only [a1, b1, hc, decide_false, Bool.and_false]
          refine ⟨trivial, .inr ?_⟩
          rw [e1]
          rw [← a3, ← b3] at hc
          omega
      · right
        simp only [a1, b1, Bool.and_false, Bool.false_and]
        refine ⟨trivial, ?_⟩
        rcases b2 with b2 | b2
        · exact .inl (by simp [b2])
        · right
          rw [e1]
          omega
    · right
      simp only [a1, Bool.false_and]
      refine ⟨trivial, ?_⟩
      rcases a2 with a2 | a2
      · exact .inl (by simp [a2])
      · right
        rw [e1]
        omega
theorem lot_struct {x : Lot} {ls l : List S130} {k : Int} {F : List Int} (hg : LieGood (rd_T130 l k)) (hr : rd_T130 l k = structL ls F) (hu : (foldL ls F).f0 ≤ (structL ls F).f0) (hx : LotOf x (foldL ls F)) : LotOf x (rd_T130 l k) := by
  rw [hr]
  obtain ⟨x1, x2, x3, x4⟩ := hx
  exact ⟨x1, x2, fun a ha => by have := x3 a ha; omega, x4⟩
theorem Q_rd_get {F : List Int} {j : Nat} (h : j < F.length) : rd F (j : Int) = F[j] := rd_get h
theorem lotsTo_snoc {t : List Q.S124} {ls : List S130} {l : List Lot} {k : Nat} {x : Lot} (h : LotsTo t ls l k) (hx : LotOf x (rd_T130 ls k)) : LotsTo t ls (l ++ [x]) (k + 1) := by
  refine ⟨by simp [h.1], fun j hj => ?_⟩
  by_cases hjk : j < k
  · have : Q.rd_T187 (l ++ [x]) j = Q.rd_T187 l j := by
      unfold Q.rd_T187
      rw [List.getD_eq_getElem?_getD, List.getD_eq_getElem?_getD, Int.toNat_natCast, List.getElem?_append_left (by rw [h.1]; exact hjk)]
    rw [this]
    exact h.2 j hjk
  · obtain rfl : j = k := by omega
    have : Q.rd_T187 (l ++ [x]) j = x := by
      unfold Q.rd_T187
      rw [List.getD_eq_getElem?_getD, Int.toNat_natCast, List.getElem?_append_right (by rw [h.1]; exact Nat.le_refl _), h.1]
      simp
    rw [this]
    exact hx
def LotsGot (t : List Q.S124) (ls : List S130) (m : Nat) (w : World) (e : Ending) (w' : World) : Prop := ∃ B cap l, e = .returned (.slice B (l : List Lot).length cap) ∧ kLot.R 187 w' w.heap.size (fun _ => True) (.slice B l.length cap) l ∧ LotsTo t ls l m ∧ Below w.heap.size w w'
theorem rdt_take {t : List Q.S124} {k m : Nat} (h : k < m) : Q.rd_T124 (t.take m) k = Q.rd_T124 t k := by
  unfold Q.rd_T124
  rw [List.getD_eq_getElem?_getD, List.getD_eq_getElem?_getD, Int.toNat_natCast, List.getElem?_take_of_lt h]

set_option maxHeartbeats 8000000 in
set_option maxRecDepth 100000 in
theorem lots_ok (t : List Q.S124) (ls : List S130) (h : Lies t ls) (m : Nat) (hm : m ≤ t.length) (A : Option Addr) (c : Nat) (w : World) (hA : Kd.C Q.k124 w A (t.take m).length (t.take m)) (hc : (t.take m).length ≤ c) :
    Calls Try.prog 125 #[.slice A (t.take m).length c] w (LotsGot t ls m w) := by
  have H := Lib.hid h
  have h64 := (lies_at h.eq).2.2.1
  have hlm : (t.take m).length = m := by rw [List.length_take]; omega
  have hrd : ∀ k : Nat, k < m → Q.rd_T124 (t.take m) k = Q.rd_T124 t k := fun k hk => rdt_take hk
  have htk : ∀ k : Nat, k < m → (t.take m).take k = t.take k := fun k hk => by rw [List.take_take, Nat.min_eq_left (by omega)]
  generalize t.take m = T at *
  subst hlm
  have HA := Lib.hid hA
  have HRD := Lib.hid hrd
  have HTK := Lib.hid htk
  clear h hA hrd htk
  go_enter Try.func125, Try.ntmps125
  go_wp2_with fail
  go_loopw [3, 4] (fun v i wr => ∃ k : Nat, ∃ l : List Lot, ∃ B cap, k ≤ T.length ∧ i = .int .i64 k ∧ v = .slice B l.length cap ∧ Hid (kLot.R 187 wr w.heap.size (fun _ => True) (.slice B l.length cap) l) ∧ Hid (LotsTo t ls l k) ∧ Hid (Below w.heap.size w wr)) (fun _ i _ => T.length - (intOf i).toNat)
  case atStart => exact ⟨0, [], none, 0, Nat.zero_le _, rfl, rfl, Lib.hid (Kd.R_nil _ _ _ _ _), Lib.hid ⟨rfl, fun j hj => by omega⟩, Lib.hid (Below.refl _ _)⟩
  case round =>
    obtain ⟨k, l, B, cap, hk, rfl, rfl, HR, HT, HB⟩ := hrel
    obtain ⟨wo, rfl⟩ : ∃ wo : World, wo = wr := ⟨_, rfl⟩
    by_cases hlt : k < T.length
    · have hlt' : (k : Int) < (T.length : Int) := by omega
      obtain ⟨ad, A3, c3, rfl, q0, q1, q2, q3, l3, h3⟩ := Q.at_T124 HA.out k (by omega) hlt'
      rw [Int.toNat_natCast] at q0 q1 q2 q3
      rw [HRD.out k hlt] at q0 q1 q2 q3 l3 h3
      replace q0 := pw_cell_below HB.out q0
      replace q3 := pw_cell_below HB.out q3
      have H3 := Lib.hid (Kd.C_below h3 HB.out)
      have hk2 : k < t.length := by omega
      have hat := (lies_at H.out.eq).2.2.2.2 k hk2
      have hsh := shape_at (lies_at H.out.eq).2.2.2.1 hk2
      have hgd := H.out.good (i := k) (by omega) (by omega)
      clear h3 q1 q2
      generalize hty : Q.rd_T124 t k = ty at *
      obtain ⟨K, E, N, F⟩ := ty
      have HTY := Lib.hid hty
      have HAT := Lib.hid hat
      have HSH := Lib.hid hsh
      dsimp only at HAT HSH q0 q3 l3 H3
      clear hty hat hsh
      have q0o := fun o => cell_old (o := o) q0
      have X0 := Lib.hid (LX.new wo)
      have B0 := Lib.hid (fun o => (Below.refl wo.heap.size wo).alloc (Nat.le_refl _) o)
      have q3w := q3
      rcases kind_cases K with rfl | rfl | rfl | rfl | hK
      · clear q3 q3w
        go_upto_region 27 with (fail)
        have X1 := Lib.hid (LX.newb wo true)
        have B1 := Lib.hid (B0.out (.cells #[.slice none 0 0, .slice none 0 0, .bool true] 187))
        clear X0 B0 q0o q0
        generalize wo.alloc (.cells #[.slice none 0 0, .slice none 0 0, .bool true] 187) = W1 at *
        have hMx := LX.M X1.out
        have HMX := Lib.hid (kLot.M_mono (ok' := fun j => wo.heap.size ≤ j) (fun j hj => hj.2.1) (kLot.M_bound hMx))
        obtain ⟨f0, f1, f2, g0, g1, g2⟩ := LX.facts X1.out
        clear hMx g0 g1 g2
        go_wp2_with (at_builtin; apply stopHere)
        unfold StopHere
        refine Kd.R_append kLot (w0 := w) w.heap.size rfl (.tmp 122) (.tmp 124) 188 187 (.agg #[.slice none 0 0, .slice none 0 0, .bool false]) 56 rfl Try.underlying188 lotInfo rfl (show 0 < 3 from Nat.succ_pos 2) (Nat.succ_pos 55) (.slice B l.length cap) l ⟨[], [], true⟩ [.slice none 0 0, .slice none 0 0, .bool (⟨[], [], true⟩ : Lot).f2] (fun _ => True) (fun j => wo.heap.size ≤ j) rfl rfl (kLot.M_lower HB.out.size HMX.out) ?_ (fun _ _ => trivial) (Kd.R_below HR.out B1.out) (HB.out.trans (B1.out.mono HB.out.size)) (Nat.le_trans HB.out.size B1.out.size) (by have := HT.out.1; omega) ?_
        · intro j hj
          refine ⟨trivial, fun he => ?_⟩
          obtain ⟨_, ho⟩ := Kd.R_own HR.out
          have := own_lt ho j he.symm
          omega
        intro v1 w1 hR1 hB1 hg1 hat1
        obtain ⟨ad1, cap1, rfl⟩ := Kd.R_slice1 hR1 (by simp)
        have HR1 := Lib.hid hR1
        have HB1 := Lib.hid hB1
        have HLOT := Lib.hid (show LotOf ⟨[], [], true⟩ (rd_T130 ls k) from lot_array HAT.out)
        clear hR1 hB1 hg1 hat1 HMX f0 f1 f2
        go_wp2
        go_roundw
        case rel => exact ⟨k + 1, l ++ [⟨[], [], true⟩], some ad1, cap1, by omega, by go_num, by first | rfl | simp, HR1, Lib.hid (lotsTo_snoc HT.out HLOT.out), HB1⟩
        case measure => simp [intOf]; omega
      · go_upto_region 13 with (fail)
        obtain ⟨i0, hi, hz0, hz1, hz2⟩ := info_parts infoI
        have X1 := X0
        have B1 := Lib.hid (B0.out (.cells #[.slice none 0 0, .slice none 0 0, .bool false] 187))
        clear X0 B0 q0o q0 q3 q3w
        generalize wo.alloc (.cells #[.slice none 0 0, .slice none 0 0, .bool false] 187) = W1 at *
        obtain ⟨f0, f1, f2, g0, g1, g2⟩ := LX.facts X1.out
        have f0o := fun o => cell_old (o := o) f0
        clear f2 g2
        go_wp2_with (at_builtin; apply stopHere)
        unfold StopHere
        refine wpList_append_own_at _ rfl (.tmp 44) (.tmp 45) 55 rfl wo.heap.size 3 i0 (.int .i64 0) 1 8 Try.underlying55 hi hz0 hz1 hz2 rfl (by decide) (.slice none 0 0) (⟨[], [], false⟩ : Lot).f0.length (nums .i64 (⟨[], [], false⟩ : Lot).f0) rfl (LR.alloc X1.out _).k ⟨W1.heap.size, 0, none⟩ ([11, 5] : List Int).length ([11, 5] : List Int).length (nums .i64 [11, 5]) rfl (by simp [nums]) (newsL W1 _ _) (nums_one _) (by first | (unfold maxLen; omega) | (unfold maxLen; simp <;> omega)) (by first | omega | (simp <;> omega)) (by have := B1.out.size; simp; omega) ?_
        intro v1 w1 hown hgrow _ hat
        obtain ⟨A2, k2, rfl⟩ := own_slice hown
        have hown' := LX.appK (x := ⟨[], [], false⟩) (s := [11, 5]) X1.out hown (by simp) (by simp [nums]) hgrow (by simpa using hat)
        have B2 := Lib.hid (((B1.out.alloc B1.out.size _).grown hgrow (by have := B1.out.size; simp; omega) (own_ge (LR.alloc X1.out (.cells #[] 0)).k)).setCell (p := ⟨wo.heap.size, 0, none⟩) (Nat.le_refl _) (.slice A2 ((⟨[], [], false⟩ : Lot).f0.length + ([11, 5] : List Int).length) k2))
        have X2 := Lib.hid (LX.setK (x := ⟨[], [], false⟩) (s := [11, 5]) hown')
        have e0 := LR.cell hown' 0
        have z0 := LR.fz hown' 0
        simp only [List.getElem?_toArray, List.getElem?_cons_zero] at e0
        clear hown hgrow hat hown' f0 f1 g0 g1 f0o
        go_upto_region 14 with (fail)
        clear e0 z0 X1 B1
        generalize hW2 : w1.setCell ⟨wo.heap.size, 0, none⟩ (.slice A2 2 k2) = W2 at *
        replace X2 : Hid (LX W2 wo.heap.size wo.heap.size ⟨[11, 5], [], false⟩ (.slice A2 2 k2) (.slice none 0 0)) := Lib.hid (hW2 ▸ X2.out)
        replace B2 : Hid (Below wo.heap.size wo W2) := Lib.hid (hW2 ▸ B2.out)
        clear hW2
        obtain ⟨f0, f1, f2, g0, g1, g2⟩ := LX.facts X2.out
        have f1o := fun o => cell_old (o := o) f1
        clear f2 g2
        go_wp2_with (at_builtin; apply stopHere)
        unfold StopHere
        refine wpList_append_own_at _ rfl (.tmp 49) (.tmp 50) 55 rfl wo.heap.size 3 i0 (.int .i64 0) 1 8 Try.underlying55 hi hz0 hz1 hz2 rfl (by decide) (.slice none 0 0) (⟨[11, 5], [], false⟩ : Lot).f1.length (nums .i64 (⟨[11, 5], [], false⟩ : Lot).f1) rfl (LR.alloc X2.out _).o ⟨W2.heap.size, 0, none⟩ ([0, 8] : List Int).length ([0, 8] : List Int).length (nums .i64 [0, 8]) rfl (by simp [nums]) (newsL W2 _ _) (nums_one _) (by first | (unfold maxLen; omega) | (unfold maxLen; simp <;> omega)) (by first | omega | (simp <;> omega)) (by have := B2.out.size; simp; omega) ?_
        intro v1 w2 hown hgrow _ hat
        obtain ⟨A3, k3, rfl⟩ := own_slice hown
        have hown' := LX.appO (x := ⟨[11, 5], [], false⟩) (s := [0, 8]) X2.out hown (by simp) (by simp [nums]) hgrow (by simpa using hat)
        have B3 := Lib.hid (((B2.out.alloc B2.out.size _).grown hgrow (by have := B2.out.size; simp; omega) (own_ge (LR.alloc X2.out (.cells #[] 0)).o)).setCell (p := ⟨wo.heap.size, 1, none⟩) (Nat.le_refl _) (.slice A3 ((⟨[11, 5], [], false⟩ : Lot).f1.length + ([0, 8] : List Int).length) k3))
        have X3 := Lib.hid (LX.setO (x := ⟨[11, 5], [], false⟩) (s := [0, 8]) hown')
        have e0 := LR.cell hown' 1
        have z0 := LR.fz hown' 1
        simp only [List.getElem?_toArray, List.getElem?_cons_succ, List.getElem?_cons_zero] at e0
        clear hown hgrow hat hown' f0 f1 g0 g1 f1o
        go_upto_region 27 with (fail)
        clear e0 z0 X2 B2
        generalize hW3 : w2.setCell ⟨wo.heap.size, 1, none⟩ (.slice A3 2 k3) = W3 at *
        replace X3 : Hid (LX W3 wo.heap.size wo.heap.size ⟨[11, 5], [0, 8], false⟩ (.slice A2 2 k2) (.slice A3 2 k3)) := Lib.hid (hW3 ▸ X3.out)
        replace B3 : Hid (Below wo.heap.size wo W3) := Lib.hid (hW3 ▸ B3.out)
        clear hW3
        have hMx := LX.M X3.out
        have HMX := Lib.hid (kLot.M_mono (ok' := fun j => wo.heap.size ≤ j) (fun j hj => hj.2.1) (kLot.M_bound hMx))
        obtain ⟨f0, f1, f2, g0, g1, g2⟩ := LX.facts X3.out
        clear hMx g0 g1 g2
        go_wp2_with (at_builtin; apply stopHere)
        unfold StopHere
        refine Kd.R_append kLot (w0 := w) w.heap.size rfl (.tmp 122) (.tmp 124) 188 187 (.agg #[.slice none 0 0, .slice none 0 0, .bool false]) 56 rfl Try.underlying188 lotInfo rfl (show 0 < 3 from Nat.succ_pos 2) (Nat.succ_pos 55) (.slice B l.length cap) l ⟨[11, 5], [0, 8], false⟩ [.slice A2 2 k2, .slice A3 2 k3, .bool (⟨[11, 5], [0, 8], false⟩ : Lot).f2] (fun _ => True) (fun j => wo.heap.size ≤ j) rfl rfl (kLot.M_lower HB.out.size HMX.out) ?_ (fun _ _ => trivial) (Kd.R_below HR.out B3.out) (HB.out.trans (B3.out.mono HB.out.size)) (Nat.le_trans HB.out.size B3.out.size) (by have := HT.out.1; omega) ?_
        · intro j hj
          refine ⟨trivial, fun he => ?_⟩
          obtain ⟨_, ho⟩ := Kd.R_own HR.out
          have := own_lt ho j he.symm
          omega
        intro v1 w1 hR1 hB1 hg1 hat1
        obtain ⟨ad1, cap1, rfl⟩ := Kd.R_slice1 hR1 (by simp)
        have HR1 := Lib.hid hR1
        have HB1 := Lib.hid hB1
        have HLOT := Lib.hid (show LotOf ⟨[11, 5], [0, 8], false⟩ (rd_T130 ls k) from lot_pair (by omega) HAT.out)
        clear hR1 hB1 hg1 hat1 HMX f0 f1 f2
        go_wp2
        go_roundw
        case rel => exact ⟨k + 1, l ++ [⟨[11, 5], [0, 8], false⟩], some ad1, cap1, by omega, by go_num, by first | rfl | simp, HR1, Lib.hid (lotsTo_snoc HT.out HLOT.out), HB1⟩
        case measure => simp [intOf]; omega
      · go_upto_region 13 with (fail)
        obtain ⟨i0, hi, hz0, hz1, hz2⟩ := info_parts infoI
        have X1 := X0
        have B1 := Lib.hid (B0.out (.cells #[.slice none 0 0, .slice none 0 0, .bool false] 187))
        clear X0 B0 q0o q0 q3 q3w
        generalize wo.alloc (.cells #[.slice none 0 0, .slice none 0 0, .bool false] 187) = W1 at *
        obtain ⟨f0, f1, f2, g0, g1, g2⟩ := LX.facts X1.out
        have f0o := fun o => cell_old (o := o) f0
        clear f2 g2
        go_wp2_with (at_builtin; apply stopHere)
        unfold StopHere
        refine wpList_append_own_at _ rfl (.tmp 44) (.tmp 45) 55 rfl wo.heap.size 3 i0 (.int .i64 0) 1 8 Try.underlying55 hi hz0 hz1 hz2 rfl (by decide) (.slice none 0 0) (⟨[], [], false⟩ : Lot).f0.length (nums .i64 (⟨[], [], false⟩ : Lot).f0) rfl (LR.alloc X1.out _).k ⟨W1.heap.size, 0, none⟩ ([11, 5] : List Int).length ([11, 5] : List Int).length (nums .i64 [11, 5]) rfl (by simp [nums]) (newsL W1 _ _) (nums_one _) (by first | (unfold maxLen; omega) | (unfold maxLen; simp <;> omega)) (by first | omega | (simp <;> omega)) (by have := B1.out.size; simp; omega) ?_
        intro v1 w1 hown hgrow _ hat
        obtain ⟨A2, k2, rfl⟩ := own_slice hown
        have hown' := LX.appK (x := ⟨[], [], false⟩) (s := [11, 5]) X1.out hown (by simp) (by simp [nums]) hgrow (by simpa using hat)
        have B2 := Lib.hid (((B1.out.alloc B1.out.size _).grown hgrow (by have := B1.out.size; simp; omega) (own_ge (LR.alloc X1.out (.cells #[] 0)).k)).setCell (p := ⟨wo.heap.size, 0, none⟩) (Nat.le_refl _) (.slice A2 ((⟨[], [], false⟩ : Lot).f0.length + ([11, 5] : List Int).length) k2))
        have X2 := Lib.hid (LX.setK (x := ⟨[], [], false⟩) (s := [11, 5]) hown')
        have e0 := LR.cell hown' 0
        have z0 := LR.fz hown' 0
        simp only [List.getElem?_toArray, List.getElem?_cons_zero] at e0
        clear hown hgrow hat hown' f0 f1 g0 g1 f0o
        go_upto_region 14 with (fail)
        clear e0 z0 X1 B1
        generalize hW2 : w1.setCell ⟨wo.heap.size, 0, none⟩ (.slice A2 2 k2) = W2 at *
        replace X2 : Hid (LX W2 wo.heap.size wo.heap.size ⟨[11, 5], [], false⟩ (.slice A2 2 k2) (.slice none 0 0)) := Lib.hid (hW2 ▸ X2.out)
        replace B2 : Hid (Below wo.heap.size wo W2) := Lib.hid (hW2 ▸ B2.out)
        clear hW2
        obtain ⟨f0, f1, f2, g0, g1, g2⟩ := LX.facts X2.out
        have f1o := fun o => cell_old (o := o) f1
        clear f2 g2
        go_wp2_with (at_builtin; apply stopHere)
        unfold StopHere
        refine wpList_append_own_at _ rfl (.tmp 49) (.tmp 50) 55 rfl wo.heap.size 3 i0 (.int .i64 0) 1 8 Try.underlying55 hi hz0 hz1 hz2 rfl (by decide) (.slice none 0 0) (⟨[11, 5], [], false⟩ : Lot).f1.length (nums .i64 (⟨[11, 5], [], false⟩ : Lot).f1) rfl (LR.alloc X2.out _).o ⟨W2.heap.size, 0, none⟩ ([0, 8] : List Int).length ([0, 8] : List Int).length (nums .i64 [0, 8]) rfl (by simp [nums]) (newsL W2 _ _) (nums_one _) (by first | (unfold maxLen; omega) | (unfold maxLen; simp <;> omega)) (by first | omega | (simp <;> omega)) (by have := B2.out.size; simp; omega) ?_
        intro v1 w2 hown hgrow _ hat
        obtain ⟨A3, k3, rfl⟩ := own_slice hown
        have hown' := LX.appO (x := ⟨[11, 5], [], false⟩) (s := [0, 8]) X2.out hown (by simp) (by simp [nums]) hgrow (by simpa using hat)
        have B3 := Lib.hid (((B2.out.alloc B2.out.size _).grown hgrow (by have := B2.out.size; simp; omega) (own_ge (LR.alloc X2.out (.cells #[] 0)).o)).setCell (p := ⟨wo.heap.size, 1, none⟩) (Nat.le_refl _) (.slice A3 ((⟨[11, 5], [], false⟩ : Lot).f1.length + ([0, 8] : List Int).length) k3))
        have X3 := Lib.hid (LX.setO (x := ⟨[11, 5], [], false⟩) (s := [0, 8]) hown')
        have e0 := LR.cell hown' 1
        have z0 := LR.fz hown' 1
        simp only [List.getElem?_toArray, List.getElem?_cons_succ, List.getElem?_cons_zero] at e0
        clear hown hgrow hat hown' f0 f1 g0 g1 f1o
        go_upto_region 27 with (fail)
        clear e0 z0 X2 B2
        generalize hW3 : w2.setCell ⟨wo.heap.size, 1, none⟩ (.slice A3 2 k3) = W3 at *
        replace X3 : Hid (LX W3 wo.heap.size wo.heap.size ⟨[11, 5], [0, 8], false⟩ (.slice A2 2 k2) (.slice A3 2 k3)) := Lib.hid (hW3 ▸ X3.out)
        replace B3 : Hid (Below wo.heap.size wo W3) := Lib.hid (hW3 ▸ B3.out)
        clear hW3
        have hMx := LX.M X3.out
        have HMX := Lib.hid (kLot.M_mono (ok' := fun j => wo.heap.size ≤ j) (fun j hj => hj.2.1) (kLot.M_bound hMx))
        obtain ⟨f0, f1, f2, g0, g1, g2⟩ := LX.facts X3.out
        clear hMx g0 g1 g2
        go_wp2_with (at_builtin; apply stopHere)
        unfold StopHere
        refine Kd.R_append kLot (w0 := w) w.heap.size rfl (.tmp 122) (.tmp 124) 188 187 (.agg #[.slice none 0 0, .slice none 0 0, .bool false]) 56 rfl Try.underlying188 lotInfo rfl (show 0 < 3 from Nat.succ_pos 2) (Nat.succ_pos 55) (.slice B l.length cap) l ⟨[11, 5], [0, 8], false⟩ [.slice A2 2 k2, .slice A3 2 k3, .bool (⟨[11, 5], [0, 8], false⟩ : Lot).f2] (fun _ => True) (fun j => wo.heap.size ≤ j) rfl rfl (kLot.M_lower HB.out.size HMX.out) ?_ (fun _ _ => trivial) (Kd.R_below HR.out B3.out) (HB.out.trans (B3.out.mono HB.out.size)) (Nat.le_trans HB.out.size B3.out.size) (by have := HT.out.1; omega) ?_
        · intro j hj
          refine ⟨trivial, fun he => ?_⟩
          obtain ⟨_, ho⟩ := Kd.R_own HR.out
          have := own_lt ho j he.symm
          omega
        intro v1 w1 hR1 hB1 hg1 hat1
        obtain ⟨ad1, cap1, rfl⟩ := Kd.R_slice1 hR1 (by simp)
        have HR1 := Lib.hid hR1
        have HB1 := Lib.hid hB1
        have HLOT := Lib.hid (show LotOf ⟨[11, 5], [0, 8], false⟩ (rd_T130 ls k) from lot_pair (by omega) HAT.out)
        clear hR1 hB1 hg1 hat1 HMX f0 f1 f2
        go_wp2
        go_roundw
        case rel => exact ⟨k + 1, l ++ [⟨[11, 5], [0, 8], false⟩], some ad1, cap1, by omega, by go_num, by first | rfl | simp, HR1, Lib.hid (lotsTo_snoc HT.out HLOT.out), HB1⟩
        case measure => simp [intOf]; omega
      · have hstr := H.out.struct hk2 (by rw [HTY.out])
        rw [HTY.out] at hstr
        obtain ⟨hst, h16, hF⟩ := hstr
        have HST := Lib.hid hst
        have HF := Lib.hid hF
        have HGD := Lib.hid hgd
        dsimp only at h16
        clear hst hF hgd
        have q3o := fun o => cell_old (o := o) q3
        go_upto_region 16 with (fail)
        have X1 := X0
        have B1 := Lib.hid (B0.out (.cells #[.slice none 0 0, .slice none 0 0, .bool false] 187))
        clear X0 B0 q0o q0 q3 q3o
        generalize wo.alloc (.cells #[.slice none 0 0, .slice none 0 0, .bool false] 187) = W1 at *
        have Q3 := Lib.hid (show wo.cell? _ = _ from q3w)
        go_wp2_with fail
        go_loopw [6] (fun i wr => ∃ j : Nat, ∃ x : Lot, ∃ Ak ck Ao co, j ≤ F.length ∧ i = .int .i64 j ∧ Hid (LX wr wo.heap.size wo.heap.size x (.slice Ak x.f0.length ck) (.slice Ao x.f1.length co)) ∧ Hid (Below wo.heap.size wo wr) ∧ Hid (LotOf x (foldL (ls.take k) (F.take j)))) (fun i _ => F.length - (intOf i).toNat)
        case atStart => exact ⟨0, ⟨[], [], false⟩, none, 0, none, 0, Nat.zero_le _, rfl, X1, B1, Lib.hid (lot_nil _)⟩
        case round =>
          obtain ⟨j, x, Ak, ck, Ao, co, hj, rfl, HX, HBj, HL⟩ := hrel
          obtain ⟨wp, rfl⟩ : ∃ wp : World, wp = wr := ⟨_, rfl⟩
          have q3 := pw_cell_below HBj.out Q3.out
          by_cases hjl : j < F.length
          · have hIA := Kd.C_below H3.out HBj.out
            obtain ⟨ad3, rfl, hcell⟩ := IntsAt.cell (w := wp) hIA (by omega)
            have hcj := hcell j hjl
            have hfj := HF.out F[j] (List.getElem_mem hjl)
            have hev := offset_ev (t := t) (T := T) H.out (k := k) hlt hm (HRD.out k hlt) (HTK.out k hlt) (by rw [HTY.out]) (f := j) (by rw [HTY.out]; exact hjl)
            rw [HTY.out] at hev
            dsimp only at hev
            rw [Q_rd_get hjl] at hev
            have htj : F.take (j + 1) = F.take j ++ [F[j]] := List.take_succ_eq_append_getElem hjl
            have HTJ := Lib.hid htj
            rw [show F.getD j 0 = F[j] by rw [List.getD_eq_getElem?_getD, List.getElem?_eq_getElem hjl]; rfl] at hcj
            have hyok := foldL_ok (ls.take k) (fun z hz => ((lies_at H.out.eq).1 z (List.mem_of_mem_take hz)).ok) (F.take j) (fun f hf => by
              have := HF.out f (List.mem_of_mem_take hf)
              rw [List.length_take, H.out.len]
              omega)
            have hlg := H.out.good (i := F[j]) hfj.1 (by omega)
            have hrl : rd_T130 (ls.take k) F[j] = rd_T130 ls F[j] := rdl_take hfj.1 hfj.2
            have HRL := Lib.hid hrl
            clear hcell hIA htj hrl
            generalize F[j] = f at *
            obtain ⟨_, _, hCl⟩ := Kd.R_reads' HR.out
            obtain ⟨adl, Yk, yk, Yo, yo, rfl, p0, p1, p2, m0, g0, m1, g1⟩ := Q.at_T187 (kLot_C hCl) f hfj.1 (by have := HT.out.1; omega)
            have hly := HT.out.2 f.toNat (by omega)
            rw [Int.toNat_of_nonneg hfj.1] at hly
            have HLY := Lib.hid hly
            replace p0 := pw_cell_below HBj.out p0
            replace p1 := pw_cell_below HBj.out p1
            replace p2 := pw_cell_below HBj.out p2
            clear hCl hly
            generalize Q.rd_T187 l f = y at *
            have G0 := Lib.hid g0
            have G1 := Lib.hid g1
            have HEV := Lib.hid hev
            have HYOK := Lib.hid hyok
            have HLG := Lib.hid hlg
            have hat0 : 0 ≤ upN (foldL (ls.take k) (F.take j)).f0 (rd_T130 ls f).f1 ∧ upN (foldL (ls.take k) (F.take j)).f0 (rd_T130 ls f).f1 ≤ 2000000 := by
              have h1 := hyok.size
              have h2 := hlg.ok.align
              have h3 := upN_bd (n := (foldL (ls.take k) (F.take j)).f0) (a := (rd_T130 ls f).f1) (by omega)
              have h4 : (F.take j).length ≤ 16 := by rw [List.length_take]; omega
              omega
            clear g0 g1 hev hyok hlg
            generalize hat : upN (foldL (ls.take k) (F.take j)).f0 (rd_T130 ls f).f1 = at_ at *
            have HATT := Lib.hid hat
            clear hat
            obtain ⟨hat0, hat1⟩ := hat0
            obtain ⟨hf0, hf1⟩ := hfj
            have hfl : f < (l.length : Int) := by have := HT.out.1; omega
            have hlt3 : (j : Int) < (F.length : Int) := by omega
            obtain ⟨kk, hkk⟩ := HEV.out.rounds
            have HKK := Lib.hid hkk
            clear hkk
            go_wp2_with fail
            refine (Q.gantryref7_Offset.calls kk (some ad) c T k j at_ _ (Kd.C_below HA.out ((HB.out.trans (HBj.out.mono HB.out.size)).alloc (Nat.le_trans HB.out.size HBj.out.size) _)) hc HKK.out).mono ?_
            rintro e w3 ⟨rfl, hb3⟩
            have HX3 := Lib.hid (show LX w3 wo.heap.size wo.heap.size x (.slice Ak x.f0.length ck) (.slice Ao x.f1.length co) from LR.below (LR.alloc HX.out _) hb3)
            have HY3 := Lib.hid ((hb3.block _ (by simp)).trans (Deep.blk_alloc_new wp (.cells #[.slice Yk y.f0.length yk, .slice Yo y.f1.length yo, .bool y.f2] 187)))
            have HB3 := Lib.hid ((HBj.out.alloc HBj.out.size (.cells #[.slice Yk y.f0.length yk, .slice Yo y.f1.length yo, .bool y.f2] 187)).trans (hb3.mono (by have := HBj.out.size; simp; omega)))
            have hne : wo.heap.size ≠ wp.heap.size := by have := LR.lt HX.out; omega
            clear hb3 p0 p1 p2 hcj q3 HX HBj
            obtain ⟨f0, f1, f2, z0, z1, z2⟩ := LX.facts HX3.out
            have e2 := lblk_cell HY3.out 2
            simp only [List.getElem?_toArray, List.getElem?_cons_succ, List.getElem?_cons_zero] at e2
            have hcase : x.f2 = false ∨ x.f2 = true := by cases x.f2 <;> simp
            rcases hcase with hx2 | hx2
            · rw [hx2] at f2
              have HX2 := Lib.hid hx2
              clear hx2
              go_upto_region 22 with (fail)
              have HX4 := Lib.hid (LX.set2 HX3.out y.f2)
              have HB4 := Lib.hid (HB3.out.setCell (p := ⟨wo.heap.size, 2, none⟩) (Nat.le_refl _) (.bool y.f2))
              have HY4 := Lib.hid (lblk_set (i := 2) (v := .bool y.f2) HY3.out (Ne.symm hne))
              clear HX3 HB3 HY3 f0 f1 f2 z0 z1 z2 e2
              generalize w3.setCell ⟨wo.heap.size, 2, none⟩ (.bool y.f2) = W4 at *
              go_wp2_with fail
              go_loopw [9] (fun i wr => ∃ q : Nat, ∃ z : Lot, ∃ Bk bk Bo bo, q ≤ y.f0.length ∧ i = .int .i64 q ∧ z.f0.length ≤ x.f0.length + q ∧ x.f0.length + q ≤ z.f0.length ∧ x.f0.length + q ≤ 17 ∧ Hid (z = ⟨x.f0 ++ y.f0.take q, x.f1 ++ (y.f1.take q).map (at_ + ·), y.f2⟩) ∧ Hid (LX wr wo.heap.size wo.heap.size z (.slice Bk z.f0.length bk) (.slice Bo z.f1.length bo)) ∧ Hid (Below wo.heap.size wo wr) ∧ Hid (wr.heap[wp.heap.size]? = some (.cells #[.slice Yk y.f0.length yk, .slice Yo y.f1.length yo, .bool y.f2] 187 (0, 0)))) (fun i _ => y.f0.length - (intOf i).toNat)
              case atStart => exact ⟨0, ⟨x.f0, x.f1, y.f2⟩, Ak, ck, Ao, co, Nat.zero_le _, rfl, Nat.le_refl _, Nat.le_refl _, by have := HL.out.1; omega, Lib.hid (by simp), HX4, HB4, HY4⟩
              case round =>
                obtain ⟨q, z, Bk, bk, Bo, bo, hq, rfl, hz1, hz2, hz3, HZ, HXq, HBq, HYq⟩ := hrel
                obtain ⟨wq, rfl⟩ : ∃ wq : World, wq = wr := ⟨_, rfl⟩
                obtain ⟨f0, f1, f2, z0, z1, z2⟩ := LX.facts HXq.out
                have e0 := lblk_cell HYq.out 0
                have e1 := lblk_cell HYq.out 1
                simp only [List.getElem?_toArray, List.getElem?_cons_succ, List.getElem?_cons_zero] at e0 e1
                by_cases hA : q < y.f0.length ∧ z.f0.length ≤ 16
                · obtain ⟨hA1, hA2⟩ := hA
                  have hyl := HLY.out.2.1
                  obtain ⟨adk, rfl, hck⟩ := IntsAt.cell G0.out (by omega)
                  obtain ⟨ado, rfl, hco⟩ := IntsAt.cell G1.out (by omega)
                  have c0 := pw_cell_below HBq.out (hck q hA1)
                  have c1o := hco q (by omega)
                  have HTKq := Lib.hid (show y.f0.take (q + 1) = y.f0.take q ++ [y.f0.getD q 0] by rw [List.take_succ_eq_append_getElem hA1, List.getD_eq_getElem?_getD, List.getElem?_eq_getElem hA1]; rfl)
                  have HTOq := Lib.hid (show y.f1.take (q + 1) = y.f1.take q ++ [y.f1.getD q 0] by rw [List.take_succ_eq_append_getElem (by omega), List.getD_eq_getElem?_getD, List.getElem?_eq_getElem (by omega)]; rfl)
                  have huo := HLY.out.2.2.1 (y.f1.getD q 0) (by rw [List.getD_eq_getElem?_getD, List.getElem?_eq_getElem (by omega)]; exact List.getElem_mem _)
                  have hzo : z.f1.length ≤ 17 := by rw [HZ.out]; simp only [List.length_append, List.length_map, List.length_take]; have := HL.out.2.1; omega
                  have hls := HLG.out.ok.size
                  have hyl1 : (q : Int) < (y.f1.length : Int) := by omega
                  have hyl0 : (q : Int) < (y.f0.length : Int) := by omega
                  have hz16 : (z.f0.length : Int) ≤ 16 := by omega
                  clear hck hco hyl
                  generalize y.f0.getD q 0 = uk at *
                  generalize y.f1.getD q 0 = uo at *
                  have hwr : IntKind.i64.wrap (at_ + uo) = at_ + uo := by rw [IntKind.wrap_i64]; omega
                  have HHW := Lib.hid hwr
                  obtain ⟨hu0, hu1⟩ := huo
                  clear hwr hls
                  obtain ⟨i0, hi, hz0, hz1', hz2'⟩ := info_parts infoI
                  go_upto_region 25 with (fail)
                  have HS := Lib.hid (show (fun w' : World => w'.cell? ⟨wo.heap.size, 0, none⟩ = some (.slice Bk z.f0.length bk) ∧ w'.cell? ⟨wp.heap.size, 0, none⟩ = some (.slice (some adk) y.f0.length yk) ∧ w'.cell? (adk.add q) = some (.int .i64 uk)) _ from ⟨f0, e0, c0⟩)
                  refine pre_start (n := 8) 11 (fun w' : World => w'.cell? ⟨wo.heap.size, 0, none⟩ = some (.slice Bk z.f0.length bk) ∧ w'.cell? ⟨wp.heap.size, 0, none⟩ = some (.slice (some adk) y.f0.length yk) ∧ w'.cell? (adk.add q) = some (.int .i64 uk)) rfl rfl ?_
                  refine pre_take [1] (i := 0) (v := ?_) rfl (by kernel_rfl) (Or.inl ⟨by rfl, ?_⟩) HS.out ?_
                  rotate_left 1
                  · intro w' hSw
                    obtain ⟨p0, p1, p2⟩ := hSw
                    go_simp
                    with_reducible rfl
                  simp only [Act.put, List.setIfInBounds_toArray, List.set_cons_zero, List.set_cons_succ]
                  refine pre_take [] (i := 1) (v := ?_) rfl (by kernel_rfl) (Or.inl ⟨by rfl, ?_⟩) HS.out ?_
                  rotate_left 1
                  · intro w' hSw
                    obtain ⟨p0, p1, p2⟩ := hSw
                    go_simp
                    with_reducible rfl
                  simp only [Act.put, List.setIfInBounds_toArray, List.set_cons_zero, List.set_cons_succ]
                  refine pre_take [7, 6, 5, 3] (i := 2) (v := ?_) rfl (by kernel_rfl) (Or.inl ⟨by rfl, ?_⟩) HS.out ?_
                  rotate_left 1
                  · intro w' hSw
                    obtain ⟨p0, p1, p2⟩ := hSw
                    go_simp
                    with_reducible rfl
                  simp only [Act.put, List.setIfInBounds_toArray, List.set_cons_zero, List.set_cons_succ]
                  refine pre_take [7, 6, 5] (i := 3) (v := ?_) rfl (by kernel_rfl) (Or.inl ⟨by rfl, ?_⟩) HS.out ?_
                  rotate_left 1
                  · intro w' hSw
                    obtain ⟨p0, p1, p2⟩ := hSw
                    go_simp
                    with_reducible rfl
                  simp only [Act.put, List.setIfInBounds_toArray, List.set_cons_zero, List.set_cons_succ]
                  refine pre_take [7, 6, 5] (i := 4) (v := ?_) rfl (by kernel_rfl) (Or.inl ⟨by rfl, ?_⟩) HS.out ?_
                  rotate_left 1
                  · intro w' hSw
                    obtain ⟨p0, p1, p2⟩ := hSw
                    go_simp
                    with_reducible rfl
                  simp only [Act.put, List.setIfInBounds_toArray, List.set_cons_zero, List.set_cons_succ]
                  refine pre_take [7, 6] (i := 5) (v := ?_) rfl (by kernel_rfl) (Or.inl ⟨by rfl, ?_⟩) HS.out ?_
                  rotate_left 1
                  · intro w' hSw
                    obtain ⟨p0, p1, p2⟩ := hSw
                    go_simp
                    with_reducible rfl
                  simp only [Act.put, List.setIfInBounds_toArray, List.set_cons_zero, List.set_cons_succ]
                  refine pre_take [7] (i := 6) (v := ?_) rfl (by kernel_rfl) (Or.inl ⟨by rfl, ?_⟩) HS.out ?_
                  rotate_left 1
                  · intro w' hSw
                    obtain ⟨p0, p1, p2⟩ := hSw
                    go_simp
                    with_reducible rfl
                  simp only [Act.put, List.setIfInBounds_toArray, List.set_cons_zero, List.set_cons_succ]
                  refine pre_step1 (i := 7) (by kernel_rfl) rfl ?_
                  intro Kq hKq
                  go_simp
                  refine hKq _ _ (⟨cell_old f0, cell_old e0, cell_old c0⟩) ?_
                  clear hKq Kq
                  refine pre_last (n := 8) (ts := [9, 10]) rfl (by kernel_rfl) (by kernel_rfl) (by kernel_rfl) ?_
                  simp only [pick, List.filterMap_cons, List.filterMap_nil, List.getElem?_cons_succ, List.getElem?_cons_zero]
                  clear HS
                  refine wpList_append_own_at _ rfl (.tmp 101) (.tmp 107) 55 rfl wo.heap.size 3 i0 (.int .i64 0) 1 8 Try.underlying55 hi hz0 hz1' hz2' rfl (by decide) (.slice Bk z.f0.length bk) (z : Lot).f0.length (nums .i64 (z : Lot).f0) rfl (LR.alloc (LR.drew HXq.out) _).k ⟨wq.heap.size, 0, none⟩ 1 1 (nums .i64 [uk]) rfl (by simp [nums]) (newsL wq.drew [uk] _) (nums_one _) (by first | (unfold maxLen; omega) | (unfold maxLen; simp <;> omega)) (by first | omega | (simp <;> omega)) (by have := HBq.out.size; simp; omega) ?_
                  intro v1 w1 hown hgrow _ hat
                  obtain ⟨A5, k5, rfl⟩ := own_slice hown
                  have hown' := LX.appK (x := z) (s := [uk]) (LR.drew HXq.out) hown (by simp) (by simp [nums]) hgrow (by simpa using hat)
                  have B5 := Lib.hid (((HBq.out.drew.alloc HBq.out.size _).grown hgrow (by have := HBq.out.size; simp; omega) (own_ge (LR.alloc (LR.drew HXq.out) (.cells #[] 0)).k)).setCell (p := ⟨wo.heap.size, 0, none⟩) (Nat.le_refl _) (.slice A5 ((z : Lot).f0.length + 1) k5))
                  have X5 := Lib.hid (LX.setK (x := z) (s := [uk]) hown')
                  have HY5 := Lib.hid (lblk_set (i := 0) (v := .slice A5 (z.f0.length + 1) k5) (blk_grown1 (blk_keep (show wq.drew.heap[wp.heap.size]? = _ from HYq.out) (.cells #[.int .i64 uk] 3)) (LR.alloc (LR.drew HXq.out) (.cells #[.int .i64 uk] 3)).k (by decide) hgrow) (Ne.symm hne))
                  have e0 := LR.cell hown' 0
                  have z0 := LR.fz hown' 0
                  simp only [List.getElem?_toArray, List.getElem?_cons_zero] at e0
                  clear hown hgrow hat hown'
                  refine wpList_step (fun Kq hKq => ?_)
                  go_simp
                  refine hKq _ _ ?_
                  clear hKq Kq
                  refine wpList_step (fun Kq hKq => ?_)
                  go_simp
                  refine hKq _ _ ?_
                  clear hKq Kq
                  refine NoPanic.normal ?_
                  go_upto_region 26 with (fail)
                  clear e0 z0 HXq HBq
                  clear f0 f1 f2 z0 z1 z2 e0 e1 c0
                  generalize hW5 : w1.setCell ⟨wo.heap.size, 0, none⟩ (.slice A5 (z.f0.length + 1) k5) = W5 at *
                  replace X5 : Hid (LX W5 wo.heap.size wo.heap.size ⟨z.f0 ++ [uk], z.f1, z.f2⟩ (.slice A5 (z.f0.length + 1) k5) (.slice Bo z.f1.length bo)) := Lib.hid (hW5 ▸ X5.out)
                  replace B5 : Hid (Below wo.heap.size wo W5) := Lib.hid (hW5 ▸ B5.out)
                  replace HY5 : Hid (W5.heap[wp.heap.size]? = some (.cells #[.slice (some adk) y.f0.length yk, .slice (some ado) y.f1.length yo, .bool y.f2] 187 (0, 0))) := Lib.hid (hW5 ▸ HY5.out)
                  clear hW5
                  obtain ⟨f0, f1, f2, z0, z1, z2⟩ := LX.facts X5.out
                  have e1 := lblk_cell HY5.out 1
                  simp only [List.getElem?_toArray, List.getElem?_cons_succ, List.getElem?_cons_zero] at e1
                  have c1 := pw_cell_below B5.out c1o
                  have hwr := HHW.out
                  have HS := Lib.hid (show (fun w' : World => w'.cell? ⟨wo.heap.size, 1, none⟩ = some (.slice Bo z.f1.length bo) ∧ w'.cell? ⟨wp.heap.size, 1, none⟩ = some (.slice (some ado) y.f1.length yo) ∧ w'.cell? (ado.add q) = some (.int .i64 uo)) _ from ⟨f1, e1, c1⟩)
                  refine pre_start (n := 10) 13 (fun w' : World => w'.cell? ⟨wo.heap.size, 1, none⟩ = some (.slice Bo z.f1.length bo) ∧ w'.cell? ⟨wp.heap.size, 1, none⟩ = some (.slice (some ado) y.f1.length yo) ∧ w'.cell? (ado.add q) = some (.int .i64 uo)) rfl rfl ?_
                  refine pre_take [1] (i := 0) (v := ?_) rfl (by kernel_rfl) (Or.inl ⟨by rfl, ?_⟩) HS.out ?_
                  rotate_left 1
                  · intro w' hSw
                    obtain ⟨p0, p1, p2⟩ := hSw
                    go_simp
                    with_reducible rfl
                  simp only [Act.put, List.setIfInBounds_toArray, List.set_cons_zero, List.set_cons_succ]
                  refine pre_take [] (i := 1) (v := ?_) rfl (by kernel_rfl) (Or.inl ⟨by rfl, ?_⟩) HS.out ?_
                  rotate_left 1
                  · intro w' hSw
                    obtain ⟨p0, p1, p2⟩ := hSw
                    go_simp
                    with_reducible rfl
                  simp only [Act.put, List.setIfInBounds_toArray, List.set_cons_zero, List.set_cons_succ]
                  refine pre_take [9, 8] (i := 2) (v := ?_) rfl (by kernel_rfl) (Or.inl ⟨by rfl, ?_⟩) HS.out ?_
                  rotate_left 1
                  · intro w' hSw
                    obtain ⟨p0, p1, p2⟩ := hSw
                    go_simp
                    with_reducible rfl
                  simp only [Act.put, List.setIfInBounds_toArray, List.set_cons_zero, List.set_cons_succ]
                  refine pre_take [9, 8, 7, 6, 4] (i := 3) (v := ?_) rfl (by kernel_rfl) (Or.inl ⟨by rfl, ?_⟩) HS.out ?_
                  rotate_left 1
                  · intro w' hSw
                    obtain ⟨p0, p1, p2⟩ := hSw
                    go_simp
                    with_reducible rfl
                  simp only [Act.put, List.setIfInBounds_toArray, List.set_cons_zero, List.set_cons_succ]
                  refine pre_take [9, 8, 7, 6] (i := 4) (v := ?_) rfl (by kernel_rfl) (Or.inl ⟨by rfl, ?_⟩) HS.out ?_
                  rotate_left 1
                  · intro w' hSw
                    obtain ⟨p0, p1, p2⟩ := hSw
                    go_simp
                    with_reducible rfl
                  simp only [Act.put, List.setIfInBounds_toArray, List.set_cons_zero, List.set_cons_succ]
                  refine pre_take [9, 8, 7, 6] (i := 5) (v := ?_) rfl (by kernel_rfl) (Or.inl ⟨by rfl, ?_⟩) HS.out ?_
                  rotate_left 1
                  · intro w' hSw
                    obtain ⟨p0, p1, p2⟩ := hSw
                    go_simp
                    with_reducible rfl
                  simp only [Act.put, List.setIfInBounds_toArray, List.set_cons_zero, List.set_cons_succ]
                  refine pre_take [9, 8, 7] (i := 6) (v := ?_) rfl (by kernel_rfl) (Or.inl ⟨by rfl, ?_⟩) HS.out ?_
                  rotate_left 1
                  · intro w' hSw
                    obtain ⟨p0, p1, p2⟩ := hSw
                    go_simp
                    with_reducible rfl
                  simp only [Act.put, List.setIfInBounds_toArray, List.set_cons_zero, List.set_cons_succ]
                  refine pre_take [9, 8] (i := 7) (v := ?_) rfl (by kernel_rfl) (Or.inl ⟨by rfl, ?_⟩) HS.out ?_
                  rotate_left 1
                  · intro w' hSw
                    obtain ⟨p0, p1, p2⟩ := hSw
                    go_simp
                    with_reducible rfl
                  simp only [Act.put, List.setIfInBounds_toArray, List.set_cons_zero, List.set_cons_succ]
                  refine pre_take [9] (i := 8) (v := ?_) rfl (by kernel_rfl) (Or.inl ⟨by rfl, ?_⟩) HS.out ?_
                  rotate_left 1
                  · intro w' hSw
                    obtain ⟨p0, p1, p2⟩ := hSw
                    go_simp
                    with_reducible rfl
                  simp only [Act.put, List.setIfInBounds_toArray, List.set_cons_zero, List.set_cons_succ]
                  refine pre_step1 (i := 9) (by kernel_rfl) rfl ?_
                  intro Kq hKq
                  go_simp
                  refine hKq _ _ (⟨cell_old f1, cell_old e1, cell_old c1⟩) ?_
                  clear hKq Kq
                  refine pre_last (n := 10) (ts := [11, 12]) rfl (by kernel_rfl) (by kernel_rfl) (by kernel_rfl) ?_
                  simp only [pick, List.filterMap_cons, List.filterMap_nil, List.getElem?_cons_succ, List.getElem?_cons_zero]
                  clear HS
                  refine wpList_append_own_at _ rfl (.tmp 111) (.tmp 119) 55 rfl wo.heap.size 3 i0 (.int .i64 0) 1 8 Try.underlying55 hi hz0 hz1' hz2' rfl (by decide) (.slice Bo z.f1.length bo) (⟨z.f0 ++ [uk], z.f1, z.f2⟩ : Lot).f1.length (nums .i64 (⟨z.f0 ++ [uk], z.f1, z.f2⟩ : Lot).f1) rfl (LR.alloc (LR.drew X5.out) _).o ⟨W5.heap.size, 0, none⟩ 1 1 (nums .i64 [(at_ + uo)]) rfl (by simp [nums]) (newsL W5.drew [(at_ + uo)] _) (nums_one _) (by first | (unfold maxLen; omega) | (unfold maxLen; simp <;> omega)) (by first | omega | (simp <;> omega)) (by have := B5.out.size; simp; omega) ?_
                  intro v1 w1 hown hgrow _ hat
                  obtain ⟨A6, k6, rfl⟩ := own_slice hown
                  have hown' := LX.appO (x := ⟨z.f0 ++ [uk], z.f1, z.f2⟩) (s := [(at_ + uo)]) (LR.drew X5.out) hown (by simp) (by simp [nums]) hgrow (by simpa using hat)
                  have B6 := Lib.hid (((B5.out.drew.alloc B5.out.size _).grown hgrow (by have := B5.out.size; simp; omega) (own_ge (LR.alloc (LR.drew X5.out) (.cells #[] 0)).o)).setCell (p := ⟨wo.heap.size, 1, none⟩) (Nat.le_refl _) (.slice A6 ((⟨z.f0 ++ [uk], z.f1, z.f2⟩ : Lot).f1.length + 1) k6))
                  have X6 := Lib.hid (LX.setO (x := ⟨z.f0 ++ [uk], z.f1, z.f2⟩) (s := [(at_ + uo)]) hown')
                  have HY6 := Lib.hid (lblk_set (i := 1) (v := .slice A6 (z.f1.length + 1) k6) (blk_grown1 (blk_keep (show W5.drew.heap[wp.heap.size]? = _ from HY5.out) (.cells #[.int .i64 (at_ + uo)] 3)) (LR.alloc (LR.drew X5.out) (.cells #[.int .i64 (at_ + uo)] 3)).o (by decide) hgrow) (Ne.symm hne))
                  have e0 := LR.cell hown' 1
                  have z0 := LR.fz hown' 1
                  simp only [List.getElem?_toArray, List.getElem?_cons_succ, List.getElem?_cons_zero] at e0
                  clear hown hgrow hat hown'
                  refine wpList_step (fun Kq hKq => ?_)
                  go_simp
                  refine hKq _ _ ?_
                  clear hKq Kq
                  refine wpList_step (fun Kq hKq => ?_)
                  go_simp
                  refine hKq _ _ ?_
                  clear hKq Kq
                  refine NoPanic.normal ?_
                  go_upto_region 24 with (fail)
                  clear e0 z0 X5 B5
                  clear f0 f1 f2 z0 z1 z2 e1 c1
                  go_wp2_with fail
                  refine ⟨⟨q + 1, ⟨z.f0 ++ [uk], z.f1 ++ [at_ + uo], z.f2⟩, A5, k5, A6, k6, by omega, by simp, by simp; omega, by simp; omega, by omega, Lib.hid ?_, Lib.hid (by simpa using X6.out), B6, HY6⟩, by simp [intOf]; omega⟩
                  rw [HZ.out, HTKq.out, HTOq.out, List.map_append, ← List.append_assoc, ← List.append_assoc]
                  rfl
                · have hB' : (q < y.f0.length ∧ 16 < z.f0.length) ∨ q = y.f0.length := by omega
                  have HE := Lib.hid (show q = y.f0.length ∨ x.f0.length + q = 17 by omega)
                  clear hA
                  rcases hB' with ⟨hB1, hB2⟩ | hB1
                  · go_wp2_with fail
                    refine ⟨⟨j + 1, z, Bk, bk, Bo, bo, by omega, by simp, HXq, HBq, Lib.hid ?_⟩, by simp [intOf]; omega⟩
                    rw [HTJ.out, foldL_snoc, HRL.out, HZ.out]
                    have := lot_step HL.out HLY.out HLG.out HYOK.out.size.1 hq hz3 HE.out
                    rw [HATT.out, HX2.out] at this
                    simpa using this
                  · go_wp2_with fail
                    refine ⟨⟨j + 1, z, Bk, bk, Bo, bo, by omega, by simp, HXq, HBq, Lib.hid ?_⟩, by simp [intOf]; omega⟩
                    rw [HTJ.out, foldL_snoc, HRL.out, HZ.out]
                    have := lot_step HL.out HLY.out HLG.out HYOK.out.size.1 hq hz3 HE.out
                    rw [HATT.out, HX2.out] at this
                    simpa using this
            · rw [hx2] at f2
              have HX2 := Lib.hid hx2
              clear hx2
              go_upto_region 22 with (fail)
              have HX4 := Lib.hid (LX.set2 HX3.out true)
              have HB4 := Lib.hid (HB3.out.setCell (p := ⟨wo.heap.size, 2, none⟩) (Nat.le_refl _) (.bool true))
              have HY4 := Lib.hid (lblk_set (i := 2) (v := .bool true) HY3.out (Ne.symm hne))
              clear HX3 HB3 HY3 f0 f1 f2 z0 z1 z2 e2
              generalize w3.setCell ⟨wo.heap.size, 2, none⟩ (.bool true) = W4 at *
              go_wp2_with fail
              go_loopw [9] (fun i wr => ∃ q : Nat, ∃ z : Lot, ∃ Bk bk Bo bo, q ≤ y.f0.length ∧ i = .int .i64 q ∧ z.f0.length ≤ x.f0.length + q ∧ x.f0.length + q ≤ z.f0.length ∧ x.f0.length + q ≤ 17 ∧ Hid (z = ⟨x.f0 ++ y.f0.take q, x.f1 ++ (y.f1.take q).map (at_ + ·), true⟩) ∧ Hid (LX wr wo.heap.size wo.heap.size z (.slice Bk z.f0.length bk) (.slice Bo z.f1.length bo)) ∧ Hid (Below wo.heap.size wo wr) ∧ Hid (wr.heap[wp.heap.size]? = some (.cells #[.slice Yk y.f0.length yk, .slice Yo y.f1.length yo, .bool y.f2] 187 (0, 0)))) (fun i _ => y.f0.length - (intOf i).toNat)
              case atStart => exact ⟨0, ⟨x.f0, x.f1, true⟩, Ak, ck, Ao, co, Nat.zero_le _, rfl, Nat.le_refl _, Nat.le_refl _, by have := HL.out.1; omega, Lib.hid (by simp), HX4, HB4, HY4⟩
              case round =>
                obtain ⟨q, z, Bk, bk, Bo, bo, hq, rfl, hz1, hz2, hz3, HZ, HXq, HBq, HYq⟩ := hrel
                obtain ⟨wq, rfl⟩ : ∃ wq : World, wq = wr := ⟨_, rfl⟩
                obtain ⟨f0, f1, f2, z0, z1, z2⟩ := LX.facts HXq.out
                have e0 := lblk_cell HYq.out 0
                have e1 := lblk_cell HYq.out 1
                simp only [List.getElem?_toArray, List.getElem?_cons_succ, List.getElem?_cons_zero] at e0 e1
                by_cases hA : q < y.f0.length ∧ z.f0.length ≤ 16
                · obtain ⟨hA1, hA2⟩ := hA
                  have hyl := HLY.out.2.1
                  obtain ⟨adk, rfl, hck⟩ := IntsAt.cell G0.out (by omega)
                  obtain ⟨ado, rfl, hco⟩ := IntsAt.cell G1.out (by omega)
                  have c0 := pw_cell_below HBq.out (hck q hA1)
                  have c1o := hco q (by omega)
                  have HTKq := Lib.hid (show y.f0.take (q + 1) = y.f0.take q ++ [y.f0.getD q 0] by rw [List.take_succ_eq_append_getElem hA1, List.getD_eq_getElem?_getD, List.getElem?_eq_getElem hA1]; rfl)
                  have HTOq := Lib.hid (show y.f1.take (q + 1) = y.f1.take q ++ [y.f1.getD q 0] by rw [List.take_succ_eq_append_getElem (by omega), List.getD_eq_getElem?_getD, List.getElem?_eq_getElem (by omega)]; rfl)
                  have huo := HLY.out.2.2.1 (y.f1.getD q 0) (by rw [List.getD_eq_getElem?_getD, List.getElem?_eq_getElem (by omega)]; exact List.getElem_mem _)
                  have hzo : z.f1.length ≤ 17 := by rw [HZ.out]; simp only [List.length_append, List.length_map, List.length_take]; have := HL.out.2.1; omega
                  have hls := HLG.out.ok.size
                  have hyl1 : (q : Int) < (y.f1.length : Int) := by omega
                  have hyl0 : (q : Int) < (y.f0.length : Int) := by omega
                  have hz16 : (z.f0.length : Int) ≤ 16 := by omega
                  clear hck hco hyl
                  generalize y.f0.getD q 0 = uk at *
                  generalize y.f1.getD q 0 = uo at *
                  have hwr : IntKind.i64.wrap (at_ + uo) = at_ + uo := by rw [IntKind.wrap_i64]; omega
                  have HHW := Lib.hid hwr
                  obtain ⟨hu0, hu1⟩ := huo
                  clear hwr hls
                  obtain ⟨i0, hi, hz0, hz1', hz2'⟩ := info_parts infoI
                  go_upto_region 25 with (fail)
                  have HS := Lib.hid (show (fun w' : World => w'.cell? ⟨wo.heap.size, 0, none⟩ = some (.slice Bk z.f0.length bk) ∧ w'.cell? ⟨wp.heap.size, 0, none⟩ = some (.slice (some adk) y.f0.length yk) ∧ w'.cell? (adk.add q) = some (.int .i64 uk)) _ from ⟨f0, e0, c0⟩)
                  refine pre_start (n := 8) 11 (fun w' : World => w'.cell? ⟨wo.heap.size, 0, none⟩ = some (.slice Bk z.f0.length bk) ∧ w'.cell? ⟨wp.heap.size, 0, none⟩ = some (.slice (some adk) y.f0.length yk) ∧ w'.cell? (adk.add q) = some (.int .i64 uk)) rfl rfl ?_
                  refine pre_take [1] (i := 0) (v := ?_) rfl (by kernel_rfl) (Or.inl ⟨by rfl, ?_⟩) HS.out ?_
                  rotate_left 1
                  · intro w' hSw
                    obtain ⟨p0, p1, p2⟩ := hSw
                    go_simp
                    with_reducible rfl
                  simp only [Act.put, List.setIfInBounds_toArray, List.set_cons_zero, List.set_cons_succ]
                  refine pre_take [] (i := 1) (v := ?_) rfl (by kernel_rfl) (Or.inl ⟨by rfl, ?_⟩) HS.out ?_
                  rotate_left 1
                  · intro w' hSw
                    obtain ⟨p0, p1, p2⟩ := hSw
                    go_simp
                    with_reducible rfl
                  simp only [Act.put, List.setIfInBounds_toArray, List.set_cons_zero, List.set_cons_succ]
                  refine pre_take [7, 6, 5, 3] (i := 2) (v := ?_) rfl (by kernel_rfl) (Or.inl ⟨by rfl, ?_⟩) HS.out ?_
                  rotate_left 1
                  · intro w' hSw
                    obtain ⟨p0, p1, p2⟩ := hSw
                    go_simp
                    with_reducible rfl
                  simp only [Act.put, List.setIfInBounds_toArray, List.set_cons_zero, List.set_cons_succ]
                  refine pre_take [7, 6, 5] (i := 3) (v := ?_) rfl (by kernel_rfl) (Or.inl ⟨by rfl, ?_⟩) HS.out ?_
                  rotate_left 1
                  · intro w' hSw
                    obtain ⟨p0, p1, p2⟩ := hSw
                    go_simp
                    with_reducible rfl
                  simp only [Act.put, List.setIfInBounds_toArray, List.set_cons_zero, List.set_cons_succ]
                  refine pre_take [7, 6, 5] (i := 4) (v := ?_) rfl (by kernel_rfl) (Or.inl ⟨by rfl, ?_⟩) HS.out ?_
                  rotate_left 1
                  · intro w' hSw
                    obtain ⟨p0, p1, p2⟩ := hSw
                    go_simp
                    with_reducible rfl
                  simp only [Act.put, List.setIfInBounds_toArray, List.set_cons_zero, List.set_cons_succ]
                  refine pre_take [7, 6] (i := 5) (v := ?_) rfl (by kernel_rfl) (Or.inl ⟨by rfl, ?_⟩) HS.out ?_
                  rotate_left 1
                  · intro w' hSw
                    obtain ⟨p0, p1, p2⟩ := hSw
                    go_simp
                    with_reducible rfl
                  simp only [Act.put, List.setIfInBounds_toArray, List.set_cons_zero, List.set_cons_succ]
                  refine pre_take [7] (i := 6) (v := ?_) rfl (by kernel_rfl) (Or.inl ⟨by rfl, ?_⟩) HS.out ?_
                  rotate_left 1
                  · intro w' hSw
                    obtain ⟨p0, p1, p2⟩ := hSw
                    go_simp
                    with_reducible rfl
                  simp only [Act.put, List.setIfInBounds_toArray, List.set_cons_zero, List.set_cons_succ]
                  refine pre_step1 (i := 7) (by kernel_rfl) rfl ?_
                  intro Kq hKq
                  go_simp
                  refine hKq _ _ (⟨cell_old f0, cell_old e0, cell_old c0⟩) ?_
                  clear hKq Kq
                  refine pre_last (n := 8) (ts := [9, 10]) rfl (by kernel_rfl) (by kernel_rfl) (by kernel_rfl) ?_
                  simp only [pick, List.filterMap_cons, List.filterMap_nil, List.getElem?_cons_succ, List.getElem?_cons_zero]
                  clear HS
                  refine wpList_append_own_at _ rfl (.tmp 101) (.tmp 107) 55 rfl wo.heap.size 3 i0 (.int .i64 0) 1 8 Try.underlying55 hi hz0 hz1' hz2' rfl (by decide) (.slice Bk z.f0.length bk) (z : Lot).f0.length (nums .i64 (z : Lot).f0) rfl (LR.alloc (LR.drew HXq.out) _).k ⟨wq.heap.size, 0, none⟩ 1 1 (nums .i64 [uk]) rfl (by simp [nums]) (newsL wq.drew [uk] _) (nums_one _) (by first | (unfold maxLen; omega) | (unfold maxLen; simp <;> omega)) (by first | omega | (simp <;> omega)) (by have := HBq.out.size; simp; omega) ?_
                  intro v1 w1 hown hgrow _ hat
                  obtain ⟨A5, k5, rfl⟩ := own_slice hown
                  have hown' := LX.appK (x := z) (s := [uk]) (LR.drew HXq.out) hown (by simp) (by simp [nums]) hgrow (by simpa using hat)
                  have B5 := Lib.hid (((HBq.out.drew.alloc HBq.out.size _).grown hgrow (by have := HBq.out.size; simp; omega) (own_ge (LR.alloc (LR.drew HXq.out) (.cells #[] 0)).k)).setCell (p := ⟨wo.heap.size, 0, none⟩) (Nat.le_refl _) (.slice A5 ((z : Lot).f0.length + 1) k5))
                  have X5 := Lib.hid (LX.setK (x := z) (s := [uk]) hown')
                  have HY5 := Lib.hid (lblk_set (i := 0) (v := .slice A5 (z.f0.length + 1) k5) (blk_grown1 (blk_keep (show wq.drew.heap[wp.heap.size]? = _ from HYq.out) (.cells #[.int .i64 uk] 3)) (LR.alloc (LR.drew HXq.out) (.cells #[.int .i64 uk] 3)).k (by decide) hgrow) (Ne.symm hne))
                  have e0 := LR.cell hown' 0
                  have z0 := LR.fz hown' 0
                  simp only [List.getElem?_toArray, List.getElem?_cons_zero] at e0
                  clear hown hgrow hat hown'
                  refine wpList_step (fun Kq hKq => ?_)
                  go_simp
                  refine hKq _ _ ?_
                  clear hKq Kq
                  refine wpList_step (fun Kq hKq => ?_)
                  go_simp
                  refine hKq _ _ ?_
                  clear hKq Kq
                  refine NoPanic.normal ?_
                  go_upto_region 26 with (fail)
                  clear e0 z0 HXq HBq
                  clear f0 f1 f2 z0 z1 z2 e0 e1 c0
                  generalize hW5 : w1.setCell ⟨wo.heap.size, 0, none⟩ (.slice A5 (z.f0.length + 1) k5) = W5 at *
                  replace X5 : Hid (LX W5 wo.heap.size wo.heap.size ⟨z.f0 ++ [uk], z.f1, z.f2⟩ (.slice A5 (z.f0.length + 1) k5) (.slice Bo z.f1.length bo)) := Lib.hid (hW5 ▸ X5.out)
                  replace B5 : Hid (Below wo.heap.size wo W5) := Lib.hid (hW5 ▸ B5.out)
                  replace HY5 : Hid (W5.heap[wp.heap.size]? = some (.cells #[.slice (some adk) y.f0.length yk, .slice (some ado) y.f1.length yo, .bool y.f2] 187 (0, 0))) := Lib.hid (hW5 ▸ HY5.out)
                  clear hW5
                  obtain ⟨f0, f1, f2, z0, z1, z2⟩ := LX.facts X5.out
                  have e1 := lblk_cell HY5.out 1
                  simp only [List.getElem?_toArray, List.getElem?_cons_succ, List.getElem?_cons_zero] at e1
                  have c1 := pw_cell_below B5.out c1o
                  have hwr := HHW.out
                  have HS := Lib.hid (show (fun w' : World => w'.cell? ⟨wo.heap.size, 1, none⟩ = some (.slice Bo z.f1.length bo) ∧ w'.cell? ⟨wp.heap.size, 1, none⟩ = some (.slice (some ado) y.f1.length yo) ∧ w'.cell? (ado.add q) = some (.int .i64 uo)) _ from ⟨f1, e1, c1⟩)
                  refine pre_start (n := 10) 13 (fun w' : World => w'.cell? ⟨wo.heap.size, 1, none⟩ = some (.slice Bo z.f1.length bo) ∧ w'.cell? ⟨wp.heap.size, 1, none⟩ = some (.slice (some ado) y.f1.length yo) ∧ w'.cell? (ado.add q) = some (.int .i64 uo)) rfl rfl ?_
                  refine pre_take [1] (i := 0) (v := ?_) rfl (by kernel_rfl) (Or.inl ⟨by rfl, ?_⟩) HS.out ?_
                  rotate_left 1
                  · intro w' hSw
                    obtain ⟨p0, p1, p2⟩ := hSw
                    go_simp
                    with_reducible rfl
                  simp only [Act.put, List.setIfInBounds_toArray, List.set_cons_zero, List.set_cons_succ]
                  refine pre_take [] (i := 1) (v := ?_) rfl (by kernel_rfl) (Or.inl ⟨by rfl, ?_⟩) HS.out ?_
                  rotate_left 1
                  · intro w' hSw
                    obtain ⟨p0, p1, p2⟩ := hSw
                    go_simp
                    with_reducible rfl
                  simp only [Act.put, List.setIfInBounds_toArray, List.set_cons_zero, List.set_cons_succ]
                  refine pre_take [9, 8] (i := 2) (v := ?_) rfl (by kernel_rfl) (Or.inl ⟨by rfl, ?_⟩) HS.out ?_
                  rotate_left 1
                  · intro w' hSw
                    obtain ⟨p0, p1, p2⟩ := hSw
                    go_simp
                    with_reducible rfl
                  simp only [Act.put, List.setIfInBounds_toArray, List.set_cons_zero, List.set_cons_succ]
                  refine pre_take [9, 8, 7, 6, 4] (i := 3) (v := ?_) rfl (by kernel_rfl) (Or.inl ⟨by rfl, ?_⟩) HS.out ?_
                  rotate_left 1
                  · intro w' hSw
                    obtain ⟨p0, p1, p2⟩ := hSw
                    go_simp
                    with_reducible rfl
                  simp only [Act.put, List.setIfInBounds_toArray, List.set_cons_zero, List.set_cons_succ]
                  refine pre_take [9, 8, 7, 6] (i := 4) (v := ?_) rfl (by kernel_rfl) (Or.inl ⟨by rfl, ?_⟩) HS.out ?_
                  rotate_left 1
                  · intro w' hSw
                    obtain ⟨p0, p1, p2⟩ := hSw
                    go_simp
                    with_reducible rfl
                  simp only [Act.put, List.setIfInBounds_toArray, List.set_cons_zero, List.set_cons_succ]
                  refine pre_take [9, 8, 7, 6] (i := 5) (v := ?_) rfl (by kernel_rfl) (Or.inl ⟨by rfl, ?_⟩) HS.out ?_
                  rotate_left 1
                  · intro w' hSw
                    obtain ⟨p0, p1, p2⟩ := hSw
                    go_simp
                    with_reducible rfl
                  simp only [Act.put, List.setIfInBounds_toArray, List.set_cons_zero, List.set_cons_succ]
                  refine pre_take [9, 8, 7] (i := 6) (v := ?_) rfl (by kernel_rfl) (Or.inl ⟨by rfl, ?_⟩) HS.out ?_
                  rotate_left 1
                  · intro w' hSw
                    obtain ⟨p0, p1, p2⟩ := hSw
                    go_simp
                    with_reducible rfl
                  simp only [Act.put, List.setIfInBounds_toArray, List.set_cons_zero, List.set_cons_succ]
                  refine pre_take [9, 8] (i := 7) (v := ?_) rfl (by kernel_rfl) (Or.inl ⟨by rfl, ?_⟩) HS.out ?_
                  rotate_left 1
                  · intro w' hSw
                    obtain ⟨p0, p1, p2⟩ := hSw
                    go_simp
                    with_reducible rfl
                  simp only [Act.put, List.setIfInBounds_toArray, List.set_cons_zero, List.set_cons_succ]
                  refine pre_take [9] (i := 8) (v := ?_) rfl (by kernel_rfl) (Or.inl ⟨by rfl, ?_⟩) HS.out ?_
                  rotate_left 1
                  · intro w' hSw
                    obtain ⟨p0, p1, p2⟩ := hSw
                    go_simp
                    with_reducible rfl
                  simp only [Act.put, List.setIfInBounds_toArray, List.set_cons_zero, List.set_cons_succ]
                  refine pre_step1 (i := 9) (by kernel_rfl) rfl ?_
                  intro Kq hKq
                  go_simp
                  refine hKq _ _ (⟨cell_old f1, cell_old e1, cell_old c1⟩) ?_
                  clear hKq Kq
                  refine pre_last (n := 10) (ts := [11, 12]) rfl (by kernel_rfl) (by kernel_rfl) (by kernel_rfl) ?_
                  simp only [pick, List.filterMap_cons, List.filterMap_nil, List.getElem?_cons_succ, List.getElem?_cons_zero]
                  clear HS
                  refine wpList_append_own_at _ rfl (.tmp 111) (.tmp 119) 55 rfl wo.heap.size 3 i0 (.int .i64 0) 1 8 Try.underlying55 hi hz0 hz1' hz2' rfl (by decide) (.slice Bo z.f1.length bo) (⟨z.f0 ++ [uk], z.f1, z.f2⟩ : Lot).f1.length (nums .i64 (⟨z.f0 ++ [uk], z.f1, z.f2⟩ : Lot).f1) rfl (LR.alloc (LR.drew X5.out) _).o ⟨W5.heap.size, 0, none⟩ 1 1 (nums .i64 [(at_ + uo)]) rfl (by simp [nums]) (newsL W5.drew [(at_ + uo)] _) (nums_one _) (by first | (unfold maxLen; omega) | (unfold maxLen; simp <;> omega)) (by first | omega | (simp <;> omega)) (by have := B5.out.size; simp; omega) ?_
                  intro v1 w1 hown hgrow _ hat
                  obtain ⟨A6, k6, rfl⟩ := own_slice hown
                  have hown' := LX.appO (x := ⟨z.f0 ++ [uk], z.f1, z.f2⟩) (s := [(at_ + uo)]) (LR.drew X5.out) hown (by simp) (by simp [nums]) hgrow (by simpa using hat)
                  have B6 := Lib.hid (((B5.out.drew.alloc B5.out.size _).grown hgrow (by have := B5.out.size; simp; omega) (own_ge (LR.alloc (LR.drew X5.out) (.cells #[] 0)).o)).setCell (p := ⟨wo.heap.size, 1, none⟩) (Nat.le_refl _) (.slice A6 ((⟨z.f0 ++ [uk], z.f1, z.f2⟩ : Lot).f1.length + 1) k6))
                  have X6 := Lib.hid (LX.setO (x := ⟨z.f0 ++ [uk], z.f1, z.f2⟩) (s := [(at_ + uo)]) hown')
                  have HY6 := Lib.hid (lblk_set (i := 1) (v := .slice A6 (z.f1.length + 1) k6) (blk_grown1 (blk_keep (show W5.drew.heap[wp.heap.size]? = _ from HY5.out) (.cells #[.int .i64 (at_ + uo)] 3)) (LR.alloc (LR.drew X5.out) (.cells #[.int .i64 (at_ + uo)] 3)).o (by decide) hgrow) (Ne.symm hne))
                  have e0 := LR.cell hown' 1
                  have z0 := LR.fz hown' 1
                  simp only [List.getElem?_toArray, List.getElem?_cons_succ, List.getElem?_cons_zero] at e0
                  clear hown hgrow hat hown'
                  refine wpList_step (fun Kq hKq => ?_)
                  go_simp
                  refine hKq _ _ ?_
                  clear hKq Kq
                  refine wpList_step (fun Kq hKq => ?_)
                  go_simp
                  refine hKq _ _ ?_
                  clear hKq Kq
                  refine NoPanic.normal ?_
                  go_upto_region 24 with (fail)
                  clear e0 z0 X5 B5
                  clear f0 f1 f2 z0 z1 z2 e1 c1
                  go_wp2_with fail
                  refine ⟨⟨q + 1, ⟨z.f0 ++ [uk], z.f1 ++ [at_ + uo], z.f2⟩, A5, k5, A6, k6, by omega, by simp, by simp; omega, by simp; omega, by omega, Lib.hid ?_, Lib.hid (by simpa using X6.out), B6, HY6⟩, by simp [intOf]; omega⟩
                  rw [HZ.out, HTKq.out, HTOq.out, List.map_append, ← List.append_assoc, ← List.append_assoc]
                  rfl
                · have hB' : (q < y.f0.length ∧ 16 < z.f0.length) ∨ q = y.f0.length := by omega
                  have HE := Lib.hid (show q = y.f0.length ∨ x.f0.length + q = 17 by omega)
                  clear hA
                  rcases hB' with ⟨hB1, hB2⟩ | hB1
                  · go_wp2_with fail
                    refine ⟨⟨j + 1, z, Bk, bk, Bo, bo, by omega, by simp, HXq, HBq, Lib.hid ?_⟩, by simp [intOf]; omega⟩
                    rw [HTJ.out, foldL_snoc, HRL.out, HZ.out]
                    have := lot_step HL.out HLY.out HLG.out HYOK.out.size.1 hq hz3 HE.out
                    rw [HATT.out, HX2.out] at this
                    simpa using this
                  · go_wp2_with fail
                    refine ⟨⟨j + 1, z, Bk, bk, Bo, bo, by omega, by simp, HXq, HBq, Lib.hid ?_⟩, by simp [intOf]; omega⟩
                    rw [HTJ.out, foldL_snoc, HRL.out, HZ.out]
                    have := lot_step HL.out HLY.out HLG.out HYOK.out.size.1 hq hz3 HE.out
                    rw [HATT.out, HX2.out] at this
                    simpa using this
          · obtain rfl : j = F.length := by omega
            go_upto_region 27 with (fail)
            have HL' := Lib.hid (show LotOf x (rd_T130 ls k) from lot_struct HGD.out HST.out (by
              have hyok := foldL_ok (ls.take k) (fun z hz => ((lies_at H.out.eq).1 z (List.mem_of_mem_take hz)).ok) F (fun f hf => by
                have := HF.out f hf
                rw [List.length_take, H.out.len]
                omega)
              have h2 := hyok.align
              have h3 := upN_bd (n := (foldL (ls.take k) F).f0) (a := (foldL (ls.take k) F).f1) (by omega)
              simp only [structL]
              omega) (by have := HL.out; rwa [List.take_length] at this))
            clear q3
            have hMx := LX.M HX.out
            have HMX := Lib.hid (kLot.M_mono (ok' := fun j => wo.heap.size ≤ j) (fun j hj => hj.2.1) (kLot.M_bound hMx))
            obtain ⟨f0, f1, f2, g0, g1, g2⟩ := LX.facts HX.out
            clear hMx g0 g1 g2
            go_wp2_with (at_builtin; apply stopHere)
            unfold StopHere
            refine Kd.R_append kLot (w0 := w) w.heap.size rfl (.tmp 122) (.tmp 124) 188 187 (.agg #[.slice none 0 0, .slice none 0 0, .bool false]) 56 rfl Try.underlying188 lotInfo rfl (show 0 < 3 from Nat.succ_pos 2) (Nat.succ_pos 55) (.slice B l.length cap) l x [.slice Ak x.f0.length ck, .slice Ao x.f1.length co, .bool (x : Lot).f2] (fun _ => True) (fun j => wo.heap.size ≤ j) rfl rfl (kLot.M_lower HB.out.size HMX.out) ?_ (fun _ _ => trivial) (Kd.R_below HR.out HBj.out) (HB.out.trans (HBj.out.mono HB.out.size)) (Nat.le_trans HB.out.size HBj.out.size) (by have := HT.out.1; omega) ?_
            · intro j hj
              refine ⟨trivial, fun he => ?_⟩
              obtain ⟨_, ho⟩ := Kd.R_own HR.out
              have := own_lt ho j he.symm
              omega
            intro v1 w1 hR1 hB1 hg1 hat1
            obtain ⟨ad1, cap1, rfl⟩ := Kd.R_slice1 hR1 (by simp)
            have HR1 := Lib.hid hR1
            have HB1 := Lib.hid hB1
            have HLOT := Lib.hid (show LotOf x (rd_T130 ls k) from HL'.out)
            clear hR1 hB1 hg1 hat1 HMX f0 f1 f2
            go_wp2
            go_roundw
            case rel => exact ⟨k + 1, l ++ [x], some ad1, cap1, by omega, by go_num, by first | rfl | simp, HR1, Lib.hid (lotsTo_snoc HT.out HLOT.out), HB1⟩
            case measure => simp [intOf]; omega
      · obtain ⟨n12, n14, n15, n13⟩ := hK
        clear q3 q3w
        go_upto_region 7 with (fail)
        obtain ⟨i0, hi, hz0, hz1, hz2⟩ := info_parts infoI
        have X1 := X0
        have B1 := Lib.hid (B0.out (.cells #[.slice none 0 0, .slice none 0 0, .bool false] 187))
        have q1 := q0o (.cells #[.slice none 0 0, .slice none 0 0, .bool false] 187)
        clear X0 B0 q0o q0
        generalize wo.alloc (.cells #[.slice none 0 0, .slice none 0 0, .bool false] 187) = W1 at *
        obtain ⟨f0, f1, f2, g0, g1, g2⟩ := LX.facts X1.out
        have HS := Lib.hid (show (fun w' : World => w'.cell? ⟨wo.heap.size, 0, none⟩ = some (.slice none 0 0) ∧ w'.cell? (ad.add (k * 4)) = some (.int .i64 K)) _ from ⟨f0, q1⟩)
        refine pre_start (n := 8) 11 (fun w' : World => w'.cell? ⟨wo.heap.size, 0, none⟩ = some (.slice none 0 0) ∧ w'.cell? (ad.add (k * 4)) = some (.int .i64 K)) rfl rfl ?_
        refine pre_take [1] (i := 0) (v := ?_) rfl (by kernel_rfl) (Or.inl ⟨by rfl, ?_⟩) HS.out ?_
        rotate_left 1
        · intro w' hSw
          obtain ⟨p0, p1⟩ := hSw
          go_simp
          with_reducible rfl
        simp only [Act.put, List.setIfInBounds_toArray, List.set_cons_zero, List.set_cons_succ]
        refine pre_take [] (i := 1) (v := ?_) rfl (by kernel_rfl) (Or.inl ⟨by rfl, ?_⟩) HS.out ?_
        rotate_left 1
        · intro w' hSw
          obtain ⟨p0, p1⟩ := hSw
          go_simp
          with_reducible rfl
        simp only [Act.put, List.setIfInBounds_toArray, List.set_cons_zero, List.set_cons_succ]
        refine pre_take [7, 6, 5, 4] (i := 2) (v := ?_) rfl (by kernel_rfl) (Or.inl ⟨by rfl, ?_⟩) HS.out ?_
        rotate_left 1
        · intro w' hSw
          obtain ⟨p0, p1⟩ := hSw
          go_simp
          with_reducible rfl
        simp only [Act.put, List.setIfInBounds_toArray, List.set_cons_zero, List.set_cons_succ]
        refine pre_take [7, 6, 5, 4] (i := 3) (v := ?_) rfl (by kernel_rfl) (Or.inl ⟨by rfl, ?_⟩) HS.out ?_
        rotate_left 1
        · intro w' hSw
          obtain ⟨p0, p1⟩ := hSw
          go_simp
          with_reducible rfl
        simp only [Act.put, List.setIfInBounds_toArray, List.set_cons_zero, List.set_cons_succ]
        refine pre_take [7, 6, 5] (i := 4) (v := ?_) rfl (by kernel_rfl) (Or.inl ⟨by rfl, ?_⟩) HS.out ?_
        rotate_left 1
        · intro w' hSw
          obtain ⟨p0, p1⟩ := hSw
          go_simp
          with_reducible rfl
        simp only [Act.put, List.setIfInBounds_toArray, List.set_cons_zero, List.set_cons_succ]
        refine pre_take [7, 6] (i := 5) (v := ?_) rfl (by kernel_rfl) (Or.inl ⟨by rfl, ?_⟩) HS.out ?_
        rotate_left 1
        · intro w' hSw
          obtain ⟨p0, p1⟩ := hSw
          go_simp
          with_reducible rfl
        simp only [Act.put, List.setIfInBounds_toArray, List.set_cons_zero, List.set_cons_succ]
        refine pre_take [7] (i := 6) (v := ?_) rfl (by kernel_rfl) (Or.inl ⟨by rfl, ?_⟩) HS.out ?_
        rotate_left 1
        · intro w' hSw
          obtain ⟨p0, p1⟩ := hSw
          go_simp
          with_reducible rfl
        simp only [Act.put, List.setIfInBounds_toArray, List.set_cons_zero, List.set_cons_succ]
        refine pre_step1 (i := 7) (by kernel_rfl) rfl ?_
        intro Kq hKq
        go_simp
        refine hKq _ _ (⟨cell_old f0, cell_old q1⟩) ?_
        clear hKq Kq
        refine pre_last (n := 8) (ts := [9, 10]) rfl (by kernel_rfl) (by kernel_rfl) (by kernel_rfl) ?_
        simp only [pick, List.filterMap_cons, List.filterMap_nil, List.getElem?_cons_succ, List.getElem?_cons_zero]
        clear HS
        refine wpList_append_own_at _ rfl (.tmp 23) (.tmp 29) 55 rfl wo.heap.size 3 i0 (.int .i64 0) 1 8 Try.underlying55 hi hz0 hz1 hz2 rfl (by decide) (.slice none 0 0) (⟨[], [], false⟩ : Lot).f0.length (nums .i64 (⟨[], [], false⟩ : Lot).f0) rfl (LR.alloc (LR.drew X1.out) _).k ⟨W1.heap.size, 0, none⟩ 1 1 (nums .i64 [K]) rfl (by simp [nums]) (newsL W1.drew [K] _) (nums_one _) (by first | (unfold maxLen; omega) | (unfold maxLen; simp <;> omega)) (by first | omega | (simp <;> omega)) (by have := B1.out.size; simp; omega) ?_
        intro v1 w1 hown hgrow _ hat
        obtain ⟨A2, k2, rfl⟩ := own_slice hown
        have hown' := LX.appK (x := ⟨[], [], false⟩) (s := [K]) (LR.drew X1.out) hown (by simp) (by simp [nums]) hgrow (by simpa using hat)
        have B2 := Lib.hid (((B1.out.drew.alloc B1.out.size _).grown hgrow (by have := B1.out.size; simp; omega) (own_ge (LR.alloc (LR.drew X1.out) (.cells #[] 0)).k)).setCell (p := ⟨wo.heap.size, 0, none⟩) (Nat.le_refl _) (.slice A2 ((⟨[], [], false⟩ : Lot).f0.length + 1) k2))
        have X2 := Lib.hid (LX.setK (x := ⟨[], [], false⟩) (s := [K]) hown')
        have e0 := LR.cell hown' 0
        have z0 := LR.fz hown' 0
        simp only [List.getElem?_toArray, List.getElem?_cons_zero] at e0
        clear hown hgrow hat hown'
        refine wpList_step (fun Kq hKq => ?_)
        go_simp
        refine hKq _ _ ?_
        clear hKq Kq
        refine wpList_step (fun Kq hKq => ?_)
        go_simp
        refine hKq _ _ ?_
        clear hKq Kq
        refine NoPanic.normal ?_
        go_upto_region 8 with (fail)
        clear e0 z0 X1 B1
        clear f0 f1 f2 g0 g1 g2 q1
        generalize hW2 : w1.setCell ⟨wo.heap.size, 0, none⟩ (.slice A2 1 k2) = W2 at *
        replace X2 : Hid (LX W2 wo.heap.size wo.heap.size ⟨[K], [], false⟩ (.slice A2 1 k2) (.slice none 0 0)) := Lib.hid (hW2 ▸ X2.out)
        replace B2 : Hid (Below wo.heap.size wo W2) := Lib.hid (hW2 ▸ B2.out)
        clear hW2
        obtain ⟨f0, f1, f2, g0, g1, g2⟩ := LX.facts X2.out
        have f1o := fun o => cell_old (o := o) f1
        clear f2 g2
        go_wp2_with (at_builtin; apply stopHere)
        unfold StopHere
        refine wpList_append_own_at _ rfl (.tmp 33) (.tmp 34) 55 rfl wo.heap.size 3 i0 (.int .i64 0) 1 8 Try.underlying55 hi hz0 hz1 hz2 rfl (by decide) (.slice none 0 0) (⟨[K], [], false⟩ : Lot).f1.length (nums .i64 (⟨[K], [], false⟩ : Lot).f1) rfl (LR.alloc X2.out _).o ⟨W2.heap.size, 0, none⟩ ([0] : List Int).length ([0] : List Int).length (nums .i64 [0]) rfl (by simp [nums]) (newsL W2 _ _) (nums_one _) (by first | (unfold maxLen; omega) | (unfold maxLen; simp <;> omega)) (by first | omega | (simp <;> omega)) (by have := B2.out.size; simp; omega) ?_
        intro v1 w2 hown hgrow _ hat
        obtain ⟨A3, k3, rfl⟩ := own_slice hown
        have hown' := LX.appO (x := ⟨[K], [], false⟩) (s := [0]) X2.out hown (by simp) (by simp [nums]) hgrow (by simpa using hat)
        have B3 := Lib.hid (((B2.out.alloc B2.out.size _).grown hgrow (by have := B2.out.size; simp; omega) (own_ge (LR.alloc X2.out (.cells #[] 0)).o)).setCell (p := ⟨wo.heap.size, 1, none⟩) (Nat.le_refl _) (.slice A3 ((⟨[K], [], false⟩ : Lot).f1.length + ([0] : List Int).length) k3))
        have X3 := Lib.hid (LX.setO (x := ⟨[K], [], false⟩) (s := [0]) hown')
        have e0 := LR.cell hown' 1
        have z0 := LR.fz hown' 1
        simp only [List.getElem?_toArray, List.getElem?_cons_succ, List.getElem?_cons_zero] at e0
        clear hown hgrow hat hown' f0 f1 g0 g1 f1o
        go_upto_region 27 with (fail)
        clear e0 z0 X2 B2
        generalize hW3 : w2.setCell ⟨wo.heap.size, 1, none⟩ (.slice A3 1 k3) = W3 at *
        replace X3 : Hid (LX W3 wo.heap.size wo.heap.size ⟨[K], [0], false⟩ (.slice A2 1 k2) (.slice A3 1 k3)) := Lib.hid (hW3 ▸ X3.out)
        replace B3 : Hid (Below wo.heap.size wo W3) := Lib.hid (hW3 ▸ B3.out)
        clear hW3
        have hMx := LX.M X3.out
        have HMX := Lib.hid (kLot.M_mono (ok' := fun j => wo.heap.size ≤ j) (fun j hj => hj.2.1) (kLot.M_bound hMx))
        obtain ⟨f0, f1, f2, g0, g1, g2⟩ := LX.facts X3.out
        clear hMx g0 g1 g2
        go_wp2_with (at_builtin; apply stopHere)
        unfold StopHere
        refine Kd.R_append kLot (w0 := w) w.heap.size rfl (.tmp 122) (.tmp 124) 188 187 (.agg #[.slice none 0 0, .slice none 0 0, .bool false]) 56 rfl Try.underlying188 lotInfo rfl (show 0 < 3 from Nat.succ_pos 2) (Nat.succ_pos 55) (.slice B l.length cap) l ⟨[K], [0], false⟩ [.slice A2 1 k2, .slice A3 1 k3, .bool (⟨[K], [0], false⟩ : Lot).f2] (fun _ => True) (fun j => wo.heap.size ≤ j) rfl rfl (kLot.M_lower HB.out.size HMX.out) ?_ (fun _ _ => trivial) (Kd.R_below HR.out B3.out) (HB.out.trans (B3.out.mono HB.out.size)) (Nat.le_trans HB.out.size B3.out.size) (by have := HT.out.1; omega) ?_
        · intro j hj
          refine ⟨trivial, fun he => ?_⟩
          obtain ⟨_, ho⟩ := Kd.R_own HR.out
          have := own_lt ho j he.symm
          omega
        intro v1 w1 hR1 hB1 hg1 hat1
        obtain ⟨ad1, cap1, rfl⟩ := Kd.R_slice1 hR1 (by simp)
        have HR1 := Lib.hid hR1
        have HB1 := Lib.hid hB1
        have HLOT := Lib.hid (show LotOf ⟨[K], [0], false⟩ (rd_T130 ls k) from lot_one ⟨n12, n14, n15, n13⟩ HAT.out)
        clear hR1 hB1 hg1 hat1 HMX f0 f1 f2
        go_wp2
        go_roundw
        case rel => exact ⟨k + 1, l ++ [⟨[K], [0], false⟩], some ad1, cap1, by omega, by go_num, by first | rfl | simp, HR1, Lib.hid (lotsTo_snoc HT.out HLOT.out), HB1⟩
        case measure => simp [intOf]; omega
    · obtain rfl : k = T.length := by omega
      clear HRD HTK
      go_wp2
      go_ret
      exact ⟨B, cap, l, rfl, HR.out, HT.out, HB.out⟩
end Go.Proofs.Ytekoogedhmhpgaa

