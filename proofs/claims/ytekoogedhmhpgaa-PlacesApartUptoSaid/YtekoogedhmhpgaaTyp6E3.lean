/- The contract of types.one at a struct. -/
import Derived.Test.YtekoogedhmhpgaaT1E3
import Derived.Deep.RegionWith
import Derived.Deep.RegionLaw
import Derived.Deep.RegionHeld3
import Derived.Test.YtekoogedhmhpgaaWMore
namespace Go.Proofs.Ytekoogedhmhpgaa
open Go.RowKit Go.Proofs.YtekoogedhmhpgaaW.PrintWords

theorem max_law (ats : Array TypeId) (ty : TypeId) (k k' : IntKind) (x y : Int) : Builtin.max_ ats ty #[.int k x, .int k' y] = pure (.int k (max x y)) := by
  rw [Go.Proofs.YtekoogedhmhpgaaW.PrintMore.max_two, Go.Proofs.YtekoogedhmhpgaaW.PrintMore.max2_int]
  have : (if x < y then y else x) = max x y := by omega
  rw [this]
  rfl
attribute [local go_sem] max_law

theorem still_eq {P : Program} {f : FuncId} {args : Array Value} {w : World} {v : Value} (h : Calls P f args w fun e w' => e = .returned v ∧ w = w') : Calls P f args w fun e w' => e = .returned v ∧ w' = w :=
  h.mono fun _ _ ⟨a, b⟩ => ⟨a, b.symm⟩

theorem rd_mem {ls : List S130} {i : Int} (h0 : 0 ≤ i) (h1 : i < ls.length) : rd_T130 ls i ∈ ls := by
  unfold rd_T130
  rw [List.getD_eq_getElem?_getD, List.getElem?_eq_getElem (show i.toNat < ls.length by omega)]
  exact List.getElem_mem _

theorem new_cell {w : World} {n i : Nat} {xs : Array Value} {t : TypeId} {v : Value} (h : w.heap.size = n) (hv : xs[i]? = some v) : (w.alloc (.cells xs t)).drew.cell? ⟨n, i, none⟩ = some v := by
  subst h
  simp [hv]

theorem YAt.two {w : World} {B yb : Nat} {y : S130} {vk va vf : Value} (h : YAt w B yb y vk va vf) (a b : Int) (o : Obj) :
    YAt (((w.setCell ⟨yb, 0, none⟩ (.int .i64 a)).setCell ⟨yb, 1, none⟩ (.int .i64 b)).alloc o).drew B yb { y with f0 := a, f1 := b } vk va vf :=
  ((YR.set (YR.set h 0 _) 1 _).alloc o).drew
theorem below_two {n yb : Nat} {w w3 : World} (h : Below n w w3) (hw : n ≤ w.heap.size) (hy : n ≤ yb) (a b : Value) (o : Obj) :
    Below n w (((w3.setCell ⟨yb, 0, none⟩ a).setCell ⟨yb, 1, none⟩ b).alloc o).drew :=
  (((h.setCell (p := ⟨yb, 0, none⟩) hy a).setCell (p := ⟨yb, 1, none⟩) hy b).alloc (by have := h.size; simpa using Nat.le_trans hw this) o).drew

theorem infoInt : (Try.prog.info? 3).map (fun i => (i.zero, i.size, i.bytes)) = some (some (.int .i64 0), 1, 8) := by kernel_rfl
theorem blk_two {w3 : World} {k yb : Nat} {p : Obj} (h : w3.heap[k]? = some p) (hne : k ≠ yb) (a b : Value) (o : Obj) :
    (((w3.setCell ⟨yb, 0, none⟩ a).setCell ⟨yb, 1, none⟩ b).alloc o).drew.heap[k]? = some p := by
  have hlt : k < w3.heap.size := (Array.getElem?_eq_some_iff.1 h).1
  show (((w3.setCell ⟨yb, 0, none⟩ a).setCell ⟨yb, 1, none⟩ b).alloc o).heap[k]? = some p
  rw [Below.heap_alloc _ _ _ (by simpa using hlt), Below.heap_setCell _ _ _ _ hne, Below.heap_setCell _ _ _ _ hne, h]
theorem heap_new {w : World} {n : Nat} (h : w.heap.size = n) (o : Obj) : (w.alloc o).drew.heap[n]? = some o := by
  subst h
  exact Deep.blk_alloc_new _ _
theorem one_one (k : Int) : ∀ u ∈ [Value.int .i64 k], u.oneCell' = true := by
  intro u hu
  simp at hu
  subst hu
  rfl
theorem lim1 {n : Nat} (h : n ≤ 64) : n + 1 ≤ maxLen := by unfold maxLen; omega
theorem lim2 {n : Nat} (h : n ≤ 64) : (n + 1) * 8 ≤ 140737488355328 := by omega
theorem news1 (W : World) (v : Value) (t : TypeId) : ∀ j u, [v][j]? = some u → (W.alloc (.cells #[v] t)).cell? ((⟨W.heap.size, 0, none⟩ : Addr).add j) = some u := by
  intro j u h
  cases j with
  | zero =>
    simp at h
    subst h
    show (match (W.alloc (.cells #[v] t)).heap[W.heap.size]? with | some (.cells c _ _) => c[0]? | _ => none) = some v
    rw [Deep.blk_alloc_new]
    rfl
  | succ => simp at h
theorem news2 (W : World) (v : Value) (t : TypeId) (o : Obj) : ∀ j u, [v][j]? = some u → ((W.alloc (.cells #[v] t)).alloc o).cell? ((⟨W.heap.size, 0, none⟩ : Addr).add j) = some u := fun j u h => cell_old (news1 W v t j u h)
theorem newsH {w1 : World} {b : Nat} {v : Value} {t : TypeId} (hb : w1.heap[b]? = some (.cells #[v] t (0, 0))) : ∀ j u, [v][j]? = some u → w1.cell? ((⟨b, 0, none⟩ : Addr).add j) = some u := by
  intro j u hu
  cases j with
  | zero =>
    simp at hu
    subst hu
    show (match w1.heap[b]? with | some (.cells c _ _) => c[0]? | _ => none) = some v
    rw [hb]
    rfl
  | succ => simp at hu
/-- A box is as it was behind an append onto a row that is older. -/
theorem newsG {W w1 : World} {b : Nat} {v vk : Value} {t : TypeId} (h : W.heap[b]? = some (.cells #[v] t (0, 0))) (hv : ∀ i, vk.ownBlock = some i → i < b) (hg : W.grownBy w1 vk.ownBlock) : ∀ j u, [v][j]? = some u → w1.cell? ((⟨b, 0, none⟩ : Addr).add j) = some u :=
  newsH ((hg.block b (Array.getElem?_eq_some_iff.1 h).1 (fun e => Nat.lt_irrefl _ (hv b e.symm))).trans h)
theorem YAt.pushF {w w1 : World} {B yb n : Nat} {y : S130} {vk va vf v1 : Value} {s : Int} {o : Obj} {xs : List Value} (h : YAt w B yb y vk va vf) (ho : w1.ownsRow B 3 1 v1 n xs) (hn : n = y.f5.length + 1) (hx : xs = nums .i64 y.f5 ++ [.int .i64 s]) (hg : (w.alloc o).grownBy w1 vf.ownBlock) (hat : v1.ownBlock = vf.ownBlock ∨ v1.ownBlock = some (w.alloc o).heap.size) :
    YR w1 B yb #[.int .i64 y.f0, .int .i64 y.f1, .bool y.f2, vk, va, vf] vk va v1 y.f3 y.f4 (y.f5 ++ [s]) := (YR.alloc h o).appF ho hn hx hg hat
theorem YAt.setF {w : World} {B yb : Nat} {y : S130} {vk va vf v1 : Value} {s : Int} (h : YR w B yb #[.int .i64 y.f0, .int .i64 y.f1, .bool y.f2, vk, va, vf] vk va v1 y.f3 y.f4 (y.f5 ++ [s])) :
    YAt (w.setCell ⟨yb, 5, none⟩ v1) B yb { y with f5 := y.f5 ++ [s] } vk va v1 := h.set 5 v1

theorem own_ge {w : World} {B e size n : Nat} {v : Value} {xs : List Value} (h : w.ownsRow B e size v n xs) : ∀ k, v.ownBlock = some k → B ≤ k := by
  intro k hk
  rcases h.2 with ⟨rfl, _⟩ | ⟨g, c, cur, rfl, hb, _⟩
  · simp [Value.ownBlock] at hk
  · simp [Value.ownBlock] at hk; omega
theorem lblk_cell {w : World} {b : Nat} {cs : Array Value} {t : TypeId} (h : w.heap[b]? = some (.cells cs t (0, 0))) (i : Nat) : w.cell? ⟨b, i, none⟩ = cs[i]? := by simp [World.cell?, h]
/-- A block of another type than the rows' is as it was behind an append and a store elsewhere. -/
theorem lblk_far {w w1 : World} {B e size n xb yb i : Nat} {v u : Value} {o : Obj} {xs : List Value} {q : Array Value} {t : TypeId} (h : w.heap[xb]? = some (.cells q t (0, 0))) (hv : w.ownsRow B e size v n xs) (ht : t ≠ e) (hg : (w.alloc o).grownBy w1 v.ownBlock) (hne : xb ≠ yb) :
    (w1.setCell ⟨yb, i, none⟩ u).heap[xb]? = some (.cells q t (0, 0)) := by
  have hlt : xb < w.heap.size := (Array.getElem?_eq_some_iff.1 h).1
  rw [Below.heap_setCell _ _ _ _ hne, hg.block xb (by simp; omega) (own_ne hv h (Ne.symm ht)), Below.heap_alloc _ _ _ hlt, h]

theorem lblk_set {w : World} {b k i : Nat} {o : Obj} {v : Value} (h : w.heap[k]? = some o) (hne : k ≠ b) : (w.setCell ⟨b, i, none⟩ v).heap[k]? = some o := (Below.heap_setCell _ _ _ _ hne).trans h
theorem blk_grown1 {w w1 : World} {B e size n b : Nat} {v : Value} {xs : List Value} {q : Array Value} {t : TypeId} (h : w.heap[b]? = some (.cells q t (0, 0))) (hv : w.ownsRow B e size v n xs) (ht : t ≠ e) (hg : w.grownBy w1 v.ownBlock) : w1.heap[b]? = some (.cells q t (0, 0)) :=
  (hg.block b (Array.getElem?_eq_some_iff.1 h).1 (own_ne hv h (Ne.symm ht))).trans h

/-- What the loads of a round read: the two lies' own blocks, and what stood at the start. -/
def S20 (w : World) (yb xb : Nat) (a0 a1 a2 a3 a4 a5 b0 b1 b2 b3 b4 b5 : Value) (w' : World) : Prop :=
  w'.heap[yb]? = some (.cells #[a0, a1, a2, a3, a4, a5] 130) ∧ w'.heap[xb]? = some (.cells #[b0, b1, b2, b3, b4, b5] 130) ∧ Below w.heap.size w w'
theorem S20.start {w w' : World} {B yb xb : Nat} {a0 a1 a2 a3 a4 a5 b0 b1 b2 b3 b4 b5 vk va vf : Value} {ks us fs : List Int} (h : YR w' B yb #[a0, a1, a2, a3, a4, a5] vk va vf ks us fs) (hx : w'.heap[xb]? = some (.cells #[b0, b1, b2, b3, b4, b5] 130)) (hb : Below w.heap.size w w') :
    S20 w yb xb a0 a1 a2 a3 a4 a5 b0 b1 b2 b3 b4 b5 w' := ⟨h.blk, hx, hb⟩
theorem S20.alloc {w w' : World} {yb xb : Nat} {a0 a1 a2 a3 a4 a5 b0 b1 b2 b3 b4 b5 : Value} (h : S20 w yb xb a0 a1 a2 a3 a4 a5 b0 b1 b2 b3 b4 b5 w') (o : Obj) : S20 w yb xb a0 a1 a2 a3 a4 a5 b0 b1 b2 b3 b4 b5 (w'.alloc o) :=
  ⟨blk_keep h.1 _, blk_keep h.2.1 _, h.2.2.alloc h.2.2.size _⟩
theorem S20.grown {w w' w1 : World} {yb xb n : Nat} {a0 a1 a2 a3 a4 a5 b0 b1 b2 b3 b4 b5 v : Value} {xs : List Value} (h : S20 w yb xb a0 a1 a2 a3 a4 a5 b0 b1 b2 b3 b4 b5 w') (hv : w'.ownsRow w.heap.size 3 1 v n xs) (hg : w'.grownBy w1 v.ownBlock) : S20 w yb xb a0 a1 a2 a3 a4 a5 b0 b1 b2 b3 b4 b5 w1 :=
  ⟨blk_grown1 h.1 hv (by decide) hg, blk_grown1 h.2.1 hv (by decide) hg, h.2.2.grown hg h.2.2.size (own_ge hv)⟩
theorem S20.facts {w w' : World} {yb xb : Nat} {a0 a1 a2 a3 a4 a5 b0 b1 b2 b3 b4 b5 v3 v4 : Value} {d3 d4 : Addr} (h : S20 w yb xb a0 a1 a2 a3 a4 a5 b0 b1 b2 b3 b4 b5 w') (h3 : w.cell? d3 = some v3) (h4 : w.cell? d4 = some v4) :
    w'.cell? ⟨yb, 0, none⟩ = some a0 ∧ w'.cell? ⟨yb, 3, none⟩ = some a3 ∧ w'.cell? ⟨yb, 4, none⟩ = some a4 ∧ w'.cell? ⟨xb, 3, none⟩ = some b3 ∧ w'.cell? ⟨xb, 4, none⟩ = some b4 ∧ w'.cell? d3 = some v3 ∧ w'.cell? d4 = some v4 :=
  ⟨lblk_cell h.1 0, lblk_cell h.1 3, lblk_cell h.1 4, lblk_cell h.2.1 3, lblk_cell h.2.1 4, pw_cell_below h.2.2 h3, pw_cell_below h.2.2 h4⟩

set_option maxHeartbeats 8000000 in
set_option maxRecDepth 100000 in
theorem one_struct (F : List Int) (A : Option Addr) (c lb cap : Nat) (B : Option Addr) (ls : List S130) (w : World) (hb : w.cell? ⟨lb, 0, none⟩ = some (.slice B ls.length cap)) (hl : Kd.C k130 w B ls.length ls) (hA : IntsAt w A F) (hF : ∀ f ∈ F, 0 ≤ f ∧ f < ls.length) (h16 : F.length ≤ 16) (hok : ∀ x ∈ ls, LieOk x) :
    Calls Try.prog 121 #[.agg #[.int .i64 13, .int .i64 0, .int .i64 0, .slice A F.length c], .func (.func 120) #[] #[.pointer (some ⟨lb, 0, none⟩)]] w fun e w' => (∃ v, e = .returned v ∧ LieVal w' w.heap.size (structL ls F) v) ∧ Below w.heap.size w w' := by
  have HL := Lib.hid hl
  have HBC := Lib.hid hb
  have HA := Lib.hid hA
  have HF := Lib.hid hF
  have HO := Lib.hid hok
  have B0 := Lib.hid (show ∀ a b, Below w.heap.size w ((w.alloc a).alloc b) from fun a b => ((Below.refl _ _).alloc (Nat.le_refl _) a).alloc (by simp) b)
  have Y0 := Lib.hid (show ∀ a, YAt ((w.alloc a).alloc (.cells #[.int .i64 0, .int .i64 1, .bool true, .slice none 0 0, .slice none 0 0, .slice none 0 0] 130)) w.heap.size (w.heap.size + 1) ⟨0, 1, true, [], [], []⟩ (.slice none 0 0) (.slice none 0 0) (.slice none 0 0) from fun a => ⟨blk1 _ _ _, own_nil _ _ _ _, own_nil _ _ _ _, own_nil _ _ _ _, .inl rfl, .inl rfl, .inl rfl⟩)
  clear hl hb hA hF hok
  go_enter Try.func121, Try.ntmps121
  go_wp2_with fail
  go_loopw [39] (fun i wr => ∃ k : Nat, ∃ y : S130, ∃ vk va vf : Value, k ≤ F.length ∧ i = .int .i64 k ∧ Hid (y = foldL ls (F.take k)) ∧ Hid (YAt wr w.heap.size (w.heap.size + 1) y vk va vf) ∧ Hid (Below w.heap.size w wr) ∧ Hid (YOk k y) ∧ Hid (wr.heap[w.heap.size]? = some (.cells #[.int .i64 13, .int .i64 0, .int .i64 0, .slice A F.length c] 124))) (fun i _ => F.length - (intOf i).toNat)
  case atStart => exact ⟨0, _, _, _, _, Nat.zero_le _, rfl, Lib.hid rfl, Lib.hid (Y0.out _), Lib.hid (B0.out _ _), Lib.hid ⟨by simp [foldL], by simp [foldL], rfl, by simp [foldL], rfl, by simp [foldL]⟩, Lib.hid (blk_keep (Deep.blk_alloc_new _ _) _)⟩
  case round =>
    obtain ⟨k, y, vk, va, vf, hk, rfl, hy, hY, hB, hYO, hT⟩ := hrel
    clear Y0
    by_cases hlt : k < F.length
    · have hIA := Kd.C_below HA.out hB.out
      obtain ⟨ad, rfl, hcells⟩ := IntsAt.cell (w := wr) hIA (by omega)
      have hck := hcells k hlt
      have hfm : F.getD k 0 ∈ F := by rw [List.getD_eq_getElem?_getD, List.getElem?_eq_getElem hlt]; exact List.getElem_mem _
      obtain ⟨hf0, hf1⟩ := HF.out _ hfm
      have htk : F.take (k + 1) = F.take k ++ [F.getD k 0] := by
        rw [List.take_succ_eq_append_getElem hlt, List.getD_eq_getElem?_getD, List.getElem?_eq_getElem hlt]
        rfl
      have HTK := Lib.hid htk
      clear hIA hcells hfm htk
      generalize F.getD k 0 = f at *
      go_wp2_with fail
      refine (found_ok lb cap B ls f _ w hB.out (pw_cell_below hB.out HBC.out) HL.out hf0 hf1).mono ?_
      rintro e w3 ⟨⟨A3, c3, A4, c4, A5, c5, rfl, hI3, hI4⟩, hb3⟩
      generalize hx : rd_T130 ls f = x at *
      have HX := Lib.hid hx
      have hY3 := (hY.out.below hb3)
      obtain ⟨y0, y1, y2, y3, y4, y5, z0, z1, z2, z3, z4, z5⟩ := YAt.facts hY3
      have HY3 := Lib.hid hY3
      have B3 := Lib.hid (hB.out.trans (hb3.mono hB.out.size))
      have hylt : w.heap.size + 1 < w3.heap.size := YR.lt hY3
      have HT3 := Lib.hid ((hb3.block _ (Array.getElem?_eq_some_iff.1 hT.out).1).trans hT.out)
      clear hx hb3 hY3 hY hB hT
      have y0o := fun o => cell_old (o := o) y0
      have y1o := fun o => cell_old (o := o) y1
      have y2o := fun o => cell_old (o := o) y2
      have y3o := fun o => cell_old (o := o) y3
      have y4o := fun o => cell_old (o := o) y4
      have y5o := fun o => cell_old (o := o) y5
      have z0o := fun o => frozen_old (o := o) hylt z0
      have z1o := fun o => frozen_old (o := o) hylt z1
      have hyne : ¬ w.heap.size + 1 = w3.heap.size := by omega
      have hyo := hYO.out.size
      have hya := hYO.out.align
      have hxo := HO.out x (by rw [← HX.out]; exact rd_mem hf0 hf1)
      obtain ⟨hys0, hys1⟩ := hyo
      have hys2 : y.f0 ≤ 2000000 := by omega
      have hxa := hxo.align
      have hxa1 : 1 ≤ x.f1 := by omega
      have hxa2 : x.f1 ≤ 8 := by omega
      have HXO := Lib.hid hxo
      clear hys1 hya hxa hxo
      go_wp2
      have y1s : ∀ v o, ((w3.setCell ⟨w.heap.size + 1, 0, none⟩ v).alloc o).cell? ⟨w.heap.size + 1, 1, none⟩ = some (.int .i64 y.f1) := fun v o => cell_old ((World.cell?_setCell_other _ _ _ _ (by simp)).trans y1)
      have z1s : ∀ v o, ((w3.setCell ⟨w.heap.size + 1, 0, none⟩ v).alloc o).frozen? ⟨w.heap.size + 1, 1, none⟩ = false := fun v o => frozen_old (by simpa using hylt) (by simpa using z1)
      have zx : ((w3.alloc (.cells #[.int .i64 x.f0, .int .i64 x.f1, .bool x.f2, .slice A3 x.f3.length c3, .slice A4 x.f4.length c4, .slice A5 x.f5.length c5] 130)).cell? ⟨w3.heap.size, 1, none⟩) = some (.int .i64 x.f1) := by simp
      clear y2 y3 y4 y5 z0 z1 y0 y1 y2o y3o y4o y5o
      have hys4 : y.f0 ≤ 4294967296 := by omega
      have HUP := fun wx => up_ok y.f0 x.f1 wx hys0 hys4 hxa1 hxa2
      refine wp_region_mix (fun w' => w'.cell? ⟨w3.heap.size, 1, none⟩ = some (.int .i64 x.f1)) [(false, 7), (false, 8), (true, 0), (true, 1), (true, 2), (true, 3), (true, 4), (true, 5), (true, 6), (false, 9), (true, 10)] 11 12 [13] _ (by kernel_rfl) rfl (by kernel_rfl) (by kernel_rfl) (by kernel_rfl) (by kernel_rfl) (by simp) ?_
      simp only [pick, pickB, Option.map_some, List.filterMap_cons, List.filterMap_nil, List.getElem?_cons_succ, List.getElem?_cons_zero]
      repeat (first
        | (refine wpMix_no (v := ?_) (Or.inl ⟨by rfl, ?_⟩) ?_
           rotate_left 1
           · intro w' hSw; (try dsimp only at hSw); go_simp; with_reducible rfl
           simp only [Act.put, List.setIfInBounds_toArray, List.set_cons_zero, List.set_cons_succ])
        | (refine wpMix_yes ?_; still_step; refine wpStill_nil ?_)
        | (refine wpMix_yes ?_; still_call (still_eq (HUP _)); refine wpStill_nil ?_))
      refine wpMix_nil ?_
      refine wpOp_step rfl (fun K hK => ?_)
      go_simp
      refine hK _ _ ⟨new_cell (by simp) rfl, ?_⟩
      clear hK K
      refine wpList_step (fun K hK => ?_)
      go_simp
      refine hK _ _ ?_
      clear hK K
      refine wpList_step (fun K hK => ?_)
      go_simp
      refine hK _ _ ?_
      clear hK K
      refine NoPanic.normal ?_
      go_upto_region 15 with (fail)
      obtain ⟨W5, hW5⟩ : ∃ W : World, W = (((w3.setCell ⟨w.heap.size + 1, 0, none⟩ (.int .i64 (upN y.f0 x.f1))).setCell ⟨w.heap.size + 1, 1, none⟩ (.int .i64 (max y.f1 x.f1))).alloc (.cells #[.int .i64 x.f0, .int .i64 x.f1, .bool x.f2, .slice A3 x.f3.length c3, .slice A4 x.f4.length c4, .slice A5 x.f5.length c5] 130)).drew := ⟨_, rfl⟩
      have HY5 : Hid (YAt W5 w.heap.size (w.heap.size + 1) { y with f0 := upN y.f0 x.f1, f1 := max y.f1 x.f1 } vk va vf) := Lib.hid (hW5 ▸ YAt.two HY3.out _ _ _)
      have HB5 : Hid (Below w.heap.size w W5) := Lib.hid (hW5 ▸ below_two B3.out (Nat.le_refl _) (Nat.le_succ _) _ _ _)
      have HX5 : Hid (W5.heap[w3.heap.size]? = some (.cells #[.int .i64 x.f0, .int .i64 x.f1, .bool x.f2, .slice A3 x.f3.length c3, .slice A4 x.f4.length c4, .slice A5 x.f5.length c5] 130)) := Lib.hid (hW5 ▸ heap_new (by simp) _)
      have HT5 : Hid (W5.heap[w.heap.size]? = some (.cells #[.int .i64 13, .int .i64 0, .int .i64 0, .slice (some ad) F.length c] 124)) := Lib.hid (hW5 ▸ blk_two HT3.out (by omega) _ _ _)
      rw [← hW5]
      clear HT3 HUP zx z1s y1s y1o y0o z0o z1o hW5
      obtain ⟨p0, p1, p2, p3, p4, p5, r0, r1, r2, r3, r4, r5⟩ := YAt.facts HY5.out
      dsimp only at p0 p1 p2 p3 p4 p5
      have hup2 : 0 ≤ upN y.f0 x.f1 ∧ upN y.f0 x.f1 ≤ 4294967296 := by
        have := upN_bd (n := y.f0) (a := x.f1) (by omega)
        omega
      have HUP2 := Lib.hid hup2
      clear hup2
      generalize hupe : upN y.f0 x.f1 = up at *
      have HUPE := Lib.hid hupe
      clear hupe
      obtain ⟨i0, hi, hz0, hz1, hz2⟩ := info_parts infoInt
      go_wp2_with (at_builtin; go_loud (refine wpList_append_own_at _ rfl (.tmp 59) (.tmp 62) 55 rfl w.heap.size 3 i0 (.int .i64 0) 1 8 Try.underlying55 hi hz0 hz1 hz2 rfl (by decide) vf y.f5.length (nums .i64 y.f5) rfl ?c0 ⟨W5.heap.size, 0, none⟩ 1 1 [.int .i64 up] rfl rfl ?c1 ?c2 ?c3 ?c4 ?c5 ?_))
      case c0 => exact (YR.alloc HY5.out _).f
      case c1 => exact news1 _ _ _
      case c2 => intro u hu; simp at hu; subst hu; rfl
      case c3 => have := hYO.out.fields; unfold maxLen; omega
      case c4 => have := hYO.out.fields; omega
      case c5 => have := HB5.out.size; simp; omega
      intro v1 w1 hown hgrow _ hat
      obtain ⟨A1, k1, rfl⟩ := own_slice hown
      have HF5 := Lib.hid (YAt.pushF HY5.out hown rfl rfl hgrow (by simpa using hat))
      have HB6 := Lib.hid ((((HB5.out.alloc HB5.out.size _).grown hgrow (by have := HB5.out.size; simp; omega) (own_ge HY5.out.f)).setCell (p := ⟨w.heap.size + 1, 5, none⟩) (Nat.le_succ _) (.slice A1 (y.f5.length + 1) k1)))
      have HX6 := Lib.hid (lblk_far (yb := w.heap.size + 1) (i := 5) (u := .slice A1 (y.f5.length + 1) k1) HX5.out HY5.out.f (by decide) hgrow (Ne.symm hyne))
      have HT6 := Lib.hid (lblk_far (yb := w.heap.size + 1) (i := 5) (u := .slice A1 (y.f5.length + 1) k1) HT5.out HY5.out.f (by decide) hgrow (by omega))
      have HY6 := Lib.hid (YAt.setF HF5.out)
      have p5' := YR.cell HF5.out 5
      have r5' := YR.fz HF5.out 5
      dsimp only at p5'
      clear hown hgrow hat HB5 HX5 HY5 HT5 HF5 p0 p1 p2 p3 p4 p5 r0 r1 r2 r3 r4 r5
      go_upto_region 16 with (fail)
      obtain ⟨W6, hW6⟩ : ∃ W : World, W = w1.setCell ⟨w.heap.size + 1, 5, none⟩ (.slice A1 (y.f5.length + 1) k1) := ⟨_, rfl⟩
      rw [← hW6] at HB6 HX6 HY6 HT6 ⊢
      clear hW6 p5' r5'
      obtain ⟨Ak, ck, rfl⟩ := own_slice HY6.out.k
      obtain ⟨p0, p1, p2, p3, p4, p5, r0, r1, r2, r3, r4, r5⟩ := YAt.facts HY6.out
      have e2 := lblk_cell HX6.out 2
      have e3 := lblk_cell HX6.out 3
      dsimp only at p0 p1 p2 p3 p4 p5
      simp only [List.getElem?_toArray, List.getElem?_cons_succ, List.getElem?_cons_zero] at e2 e3
      have hk1 := hYO.out.kinds
      have hk2 := HXO.out.kinds
      have hwr : IntKind.i64.wrap ((y.f3.length : Int) + x.f3.length) = (y.f3.length : Int) + x.f3.length := by
        rw [IntKind.wrap_i64]
        omega
      have hcase : (y.f2 = true ∧ x.f2 = true ∧ y.f3.length + x.f3.length ≤ 16) ∨ y.f2 = false ∨ (y.f2 = true ∧ x.f2 = false) ∨ (y.f2 = true ∧ x.f2 = true ∧ 16 < y.f3.length + x.f3.length) := by
        cases y.f2 <;> cases x.f2 <;> simp <;> omega
      rcases hcase with ⟨hc1, hc2, hc3⟩ | hc1 | ⟨hc1, hc2⟩ | ⟨hc1, hc2, hc3⟩
      · have HC := Lib.hid (show (y.f2 && x.f2 && decide (y.f3.length + x.f3.length ≤ 16)) = true by simp [hc1, hc2, hc3])
        rw [hc1] at p2
        rw [hc2] at e2
        have hle : (y.f3.length : Int) + x.f3.length ≤ 16 := by omega
        go_wp2_with fail
        go_loopw [9] (fun i wj => ∃ j : Nat, ∃ vk va : Value, j ≤ x.f3.length ∧ i = .int .i64 j ∧ Hid (YAt wj w.heap.size (w.heap.size + 1) { f0 := up, f1 := max y.f1 x.f1, f2 := true, f3 := y.f3 ++ x.f3.take j, f4 := y.f4 ++ (x.f4.take j).map (up + ·), f5 := y.f5 ++ [up] } vk va (.slice A1 (y.f5.length + 1) k1)) ∧ Hid (Below w.heap.size w wj) ∧ Hid (wj.heap[w3.heap.size]? = some (.cells #[.int .i64 x.f0, .int .i64 x.f1, .bool true, .slice A3 x.f3.length c3, .slice A4 x.f4.length c4, .slice A5 x.f5.length c5] 130)) ∧ Hid (wj.heap[w.heap.size]? = some (.cells #[.int .i64 13, .int .i64 0, .int .i64 0, .slice (some ad) F.length c] 124))) (fun i _ => x.f3.length - (intOf i).toNat)
        case atStart =>
          have hY7 : YAt (W6.setCell ⟨w.heap.size + 1, 2, none⟩ (.bool true)) w.heap.size (w.heap.size + 1) { f0 := up, f1 := max y.f1 x.f1, f2 := true, f3 := y.f3, f4 := y.f4, f5 := y.f5 ++ [up] } (.slice Ak y.f3.length ck) va (.slice A1 (y.f5.length + 1) k1) := YR.set HY6.out 2 _
          rw [hc2] at HX6
          exact ⟨0, _, _, Nat.zero_le _, rfl, Lib.hid (by simpa using hY7), Lib.hid (HB6.out.setCell (p := ⟨w.heap.size + 1, 2, none⟩) (Nat.le_succ _) _), Lib.hid (lblk_set HX6.out (Ne.symm hyne)), Lib.hid (lblk_set HT6.out (by omega))⟩
        case round =>
          obtain ⟨j, vk2, va2, hj, rfl, hY, hB, hX, hTj⟩ := hrel
          clear HY6 HB6 HX6 HT6 p0 p1 p2 p3 p4 p5 r0 r1 r2 r3 r4 r5 e2 e3
          obtain ⟨p0, p1, p2, p3, p4, p5, r0, r1, r2, r3, r4, r5⟩ := YAt.facts hY.out
          have e3 := lblk_cell hX.out 3
          dsimp only at p0 p1 p2 p3 p4 p5
          simp only [List.getElem?_toArray, List.getElem?_cons_succ, List.getElem?_cons_zero] at e3
          by_cases hlt2 : j < x.f3.length
          · have hl34 := Lib.hid HXO.out.len
            have hlt4 : j < x.f4.length := by have := hl34.out; omega
            obtain ⟨ad3, rfl, hc3'⟩ := IntsAt.cell hI3 (by omega)
            obtain ⟨ad4, rfl, hc4'⟩ := IntsAt.cell hI4 (by have := hl34.out; omega)
            have hq3 := hc3' j hlt2
            have hq4 := hc4' j (by have := hl34.out; omega)
            clear hc3' hc4'
            obtain ⟨kj, hkj⟩ : ∃ v, v = x.f3.getD j 0 := ⟨_, rfl⟩
            obtain ⟨uj, huj⟩ : ∃ v, v = x.f4.getD j 0 := ⟨_, rfl⟩
            rw [← hkj] at hq3
            rw [← huj] at hq4
            have huj2 : uj ∈ x.f4 := by rw [huj, List.getD_eq_getElem?_getD, List.getElem?_eq_getElem (by have := hl34.out; omega)]; exact List.getElem_mem _
            have HKJ := Lib.hid hkj
            have HUJ := Lib.hid huj
            have huj3 := HXO.out.at_ uj huj2
            have hupb : 0 ≤ up ∧ up ≤ 4294967296 := HUP2.out
            have hwu : IntKind.i64.wrap (up + uj) = up + uj := by
              rw [IntKind.wrap_i64]
              omega
            clear hkj huj huj2 huj3 hupb
            go_upto_region 20 with (fail)
            have HYd := Lib.hid (YR.drew hY.out)
            have HTd : Hid (wr.drew.heap[w.heap.size]? = some (.cells #[.int .i64 13, .int .i64 0, .int .i64 0, .slice (some ad) F.length c] 124)) := hTj
            have HS := S20.start hY.out.drew hX.out hB.out.drew
            refine pre_start (n := 22) 25 (S20 w (w.heap.size + 1) w3.heap.size (.int .i64 up) (.int .i64 (max y.f1 x.f1)) (.bool true) vk2 va2 (.slice A1 (y.f5.length + 1) k1) (.int .i64 x.f0) (.int .i64 x.f1) (.bool true) (.slice (some ad3) x.f3.length c3) (.slice (some ad4) x.f4.length c4) (.slice A5 x.f5.length c5)) (by kernel_rfl) rfl ?_
            refine pre_take [] (i := 0) (v := ?_) rfl (by kernel_rfl) (Or.inl ⟨by rfl, ?_⟩) HS ?_
            rotate_left 1
            · intro w' hSw
              obtain ⟨g0, g3, g4, g5, g6, g7, g8⟩ := S20.facts hSw hq3 hq4
              go_simp
              with_reducible rfl
            simp only [Act.put, List.setIfInBounds_toArray, List.set_cons_zero, List.set_cons_succ]
            refine pre_take [] (i := 1) (v := ?_) rfl (by kernel_rfl) (Or.inl ⟨by rfl, ?_⟩) HS ?_
            rotate_left 1
            · intro w' hSw
              obtain ⟨g0, g3, g4, g5, g6, g7, g8⟩ := S20.facts hSw hq3 hq4
              go_simp
              with_reducible rfl
            simp only [Act.put, List.setIfInBounds_toArray, List.set_cons_zero, List.set_cons_succ]
            refine pre_take [] (i := 2) (v := ?_) rfl (by kernel_rfl) (Or.inl ⟨by rfl, ?_⟩) HS ?_
            rotate_left 1
            · intro w' hSw
              obtain ⟨g0, g3, g4, g5, g6, g7, g8⟩ := S20.facts hSw hq3 hq4
              go_simp
              with_reducible rfl
            simp only [Act.put, List.setIfInBounds_toArray, List.set_cons_zero, List.set_cons_succ]
            refine pre_take [] (i := 3) (v := ?_) rfl (by kernel_rfl) (Or.inl ⟨by rfl, ?_⟩) HS ?_
            rotate_left 1
            · intro w' hSw
              obtain ⟨g0, g3, g4, g5, g6, g7, g8⟩ := S20.facts hSw hq3 hq4
              go_simp
              with_reducible rfl
            simp only [Act.put, List.setIfInBounds_toArray, List.set_cons_zero, List.set_cons_succ]
            refine pre_take [] (i := 4) (v := ?_) rfl (by kernel_rfl) (Or.inl ⟨by rfl, ?_⟩) HS ?_
            rotate_left 1
            · intro w' hSw
              obtain ⟨g0, g3, g4, g5, g6, g7, g8⟩ := S20.facts hSw hq3 hq4
              go_simp
              with_reducible rfl
            simp only [Act.put, List.setIfInBounds_toArray, List.set_cons_zero, List.set_cons_succ]
            refine pre_take [] (i := 5) (v := ?_) rfl (by kernel_rfl) (Or.inl ⟨by rfl, ?_⟩) HS ?_
            rotate_left 1
            · intro w' hSw
              obtain ⟨g0, g3, g4, g5, g6, g7, g8⟩ := S20.facts hSw hq3 hq4
              go_simp
              with_reducible rfl
            simp only [Act.put, List.setIfInBounds_toArray, List.set_cons_zero, List.set_cons_succ]
            refine pre_take [] (i := 6) (v := ?_) rfl (by kernel_rfl) (Or.inl ⟨by rfl, ?_⟩) HS ?_
            rotate_left 1
            · intro w' hSw
              obtain ⟨g0, g3, g4, g5, g6, g7, g8⟩ := S20.facts hSw hq3 hq4
              go_simp
              with_reducible rfl
            simp only [Act.put, List.setIfInBounds_toArray, List.set_cons_zero, List.set_cons_succ]
            refine pre_take [] (i := 9) (v := ?_) rfl (by kernel_rfl) (Or.inl ⟨by rfl, ?_⟩) HS ?_
            rotate_left 1
            · intro w' hSw
              obtain ⟨g0, g3, g4, g5, g6, g7, g8⟩ := S20.facts hSw hq3 hq4
              go_simp
              with_reducible rfl
            simp only [Act.put, List.setIfInBounds_toArray, List.set_cons_zero, List.set_cons_succ]
            refine pre_take [] (i := 10) (v := ?_) rfl (by kernel_rfl) (Or.inl ⟨by rfl, ?_⟩) HS ?_
            rotate_left 1
            · intro w' hSw
              obtain ⟨g0, g3, g4, g5, g6, g7, g8⟩ := S20.facts hSw hq3 hq4
              go_simp
              with_reducible rfl
            simp only [Act.put, List.setIfInBounds_toArray, List.set_cons_zero, List.set_cons_succ]
            refine pre_take [] (i := 11) (v := ?_) rfl (by kernel_rfl) (Or.inl ⟨by rfl, ?_⟩) HS ?_
            rotate_left 1
            · intro w' hSw
              obtain ⟨g0, g3, g4, g5, g6, g7, g8⟩ := S20.facts hSw hq3 hq4
              go_simp
              with_reducible rfl
            simp only [Act.put, List.setIfInBounds_toArray, List.set_cons_zero, List.set_cons_succ]
            refine pre_take [] (i := 12) (v := ?_) rfl (by kernel_rfl) (Or.inl ⟨by rfl, ?_⟩) HS ?_
            rotate_left 1
            · intro w' hSw
              obtain ⟨g0, g3, g4, g5, g6, g7, g8⟩ := S20.facts hSw hq3 hq4
              go_simp
              with_reducible rfl
            simp only [Act.put, List.setIfInBounds_toArray, List.set_cons_zero, List.set_cons_succ]
            refine pre_take [20, 19, 18, 17, 16, 14] (i := 13) (v := ?_) rfl (by kernel_rfl) (Or.inl ⟨by rfl, ?_⟩) HS ?_
            rotate_left 1
            · intro w' hSw
              obtain ⟨g0, g3, g4, g5, g6, g7, g8⟩ := S20.facts hSw hq3 hq4
              go_simp
              with_reducible rfl
            simp only [Act.put, List.setIfInBounds_toArray, List.set_cons_zero, List.set_cons_succ]
            refine pre_take [20, 19, 18, 17, 16] (i := 14) (v := ?_) rfl (by kernel_rfl) (Or.inl ⟨by rfl, ?_⟩) HS ?_
            rotate_left 1
            · intro w' hSw
              obtain ⟨g0, g3, g4, g5, g6, g7, g8⟩ := S20.facts hSw hq3 hq4
              go_simp
              with_reducible rfl
            simp only [Act.put, List.setIfInBounds_toArray, List.set_cons_zero, List.set_cons_succ]
            refine pre_take [20, 19, 18, 17, 16] (i := 15) (v := ?_) rfl (by kernel_rfl) (Or.inl ⟨by rfl, ?_⟩) HS ?_
            rotate_left 1
            · intro w' hSw
              obtain ⟨g0, g3, g4, g5, g6, g7, g8⟩ := S20.facts hSw hq3 hq4
              go_simp
              with_reducible rfl
            simp only [Act.put, List.setIfInBounds_toArray, List.set_cons_zero, List.set_cons_succ]
            refine pre_take [20, 19, 18, 17] (i := 16) (v := ?_) rfl (by kernel_rfl) (Or.inl ⟨by rfl, ?_⟩) HS ?_
            rotate_left 1
            · intro w' hSw
              obtain ⟨g0, g3, g4, g5, g6, g7, g8⟩ := S20.facts hSw hq3 hq4
              go_simp
              with_reducible rfl
            simp only [Act.put, List.setIfInBounds_toArray, List.set_cons_zero, List.set_cons_succ]
            refine pre_take [20, 19, 18] (i := 17) (v := ?_) rfl (by kernel_rfl) (Or.inl ⟨by rfl, ?_⟩) HS ?_
            rotate_left 1
            · intro w' hSw
              obtain ⟨g0, g3, g4, g5, g6, g7, g8⟩ := S20.facts hSw hq3 hq4
              go_simp
              with_reducible rfl
            simp only [Act.put, List.setIfInBounds_toArray, List.set_cons_zero, List.set_cons_succ]
            refine pre_take [20, 19] (i := 18) (v := ?_) rfl (by kernel_rfl) (Or.inl ⟨by rfl, ?_⟩) HS ?_
            rotate_left 1
            · intro w' hSw
              obtain ⟨g0, g3, g4, g5, g6, g7, g8⟩ := S20.facts hSw hq3 hq4
              go_simp
              with_reducible rfl
            simp only [Act.put, List.setIfInBounds_toArray, List.set_cons_zero, List.set_cons_succ]
            have hN3 : (y.f3 ++ x.f3.take j).length ≤ 64 := by
              have := hYO.out.kinds
              simp
              omega
            have hN4 : (y.f4 ++ (x.f4.take j).map (up + ·)).length ≤ 64 := by
              have := hYO.out.kinds
              have := hYO.out.len
              have := hl34.out
              simp
              omega
            generalize wr.drew = wd at *
            have HTK3 := Lib.hid (show x.f3.take (j + 1) = x.f3.take j ++ [kj] by rw [HKJ.out, List.take_succ_eq_append_getElem hlt2, List.getD_eq_getElem?_getD, List.getElem?_eq_getElem hlt2]; rfl)
            have HTK4 := Lib.hid (show x.f4.take (j + 1) = x.f4.take j ++ [uj] by rw [HUJ.out, List.take_succ_eq_append_getElem hlt4, List.getD_eq_getElem?_getD, List.getElem?_eq_getElem hlt4]; rfl)
            refine pre_step2 (i := 7) (j := 19) (by kernel_rfl) rfl rfl ?_ ?_
            · intro K' hK
              go_simp
              refine hK _ _ (HS.alloc (.cells #[.int .i64 kj] 3)) ?_
              clear hK K'
              refine pre_step2 (i := 8) (j := 19) (by kernel_rfl) rfl rfl ?_ ?_
              · intro K' hK
                refine step_append_lies _ rfl (.tmp 94) (.tmp 100) 55 rfl w.heap.size 3 i0 (.int .i64 0) 1 8 Try.underlying55 hi hz0 hz1 hz2 rfl (by decide) vk2 _ _ rfl (YR.alloc HYd.out (.cells #[.int .i64 kj] 3)).k ⟨wd.heap.size, 0, none⟩ 1 1 [.int .i64 kj] rfl rfl (news1 _ _ _) (one_one _) (by decide) (lim1 hN3) (lim2 hN3) (by have := (HS.alloc (.cells #[.int .i64 kj] 3)).2.2.size; exact this) _ rfl ?_
                intro g cap w1 hown hgrow hat hlt
                refine hK _ _ (S20.grown (HS.alloc (.cells #[.int .i64 kj] 3)) (YR.alloc HYd.out (.cells #[.int .i64 kj] 3)).k hgrow) ?_
                have HY1 := YR.appK (YR.alloc HYd.out (.cells #[.int .i64 kj] 3)) hown rfl rfl hgrow (hat.imp (fun h => h.symm) (fun h => by rw [h]; rfl))
                have HS1 := S20.grown (HS.alloc (.cells #[.int .i64 kj] 3)) (YR.alloc HYd.out (.cells #[.int .i64 kj] 3)).k hgrow
                have HT1 := Lib.hid (blk_grown1 (blk_keep HTd.out (.cells #[.int .i64 kj] 3)) (YR.alloc HYd.out (.cells #[.int .i64 kj] 3)).k (by decide) hgrow)
                clear hown hgrow hat hlt hK K'
                simp only [Act.put, List.setIfInBounds_toArray, List.set_cons_zero, List.set_cons_succ]
                refine pre_take [] (i := 21) (v := ?_) rfl (by kernel_rfl) (Or.inl ⟨by rfl, ?_⟩) HS1 ?_
                rotate_left 1
                · intro w' hSw
                  go_simp
                  with_reducible rfl
                simp only [Act.put, List.setIfInBounds_toArray, List.set_cons_zero, List.set_cons_succ]
                refine pre_step1 (i := 19) (by kernel_rfl) rfl ?_
                intro K' hK
                go_simp
                refine hK _ _ (HS1.alloc (.cells #[.int .i64 (up + uj)] 3)) ?_
                clear hK K'
                refine pre_step1 (i := 20) (by kernel_rfl) rfl ?_
                intro K' hK
                refine step_append_lies _ rfl (.tmp 103) (.tmp 112) 55 rfl w.heap.size 3 i0 (.int .i64 0) 1 8 Try.underlying55 hi hz0 hz1 hz2 rfl (by decide) va2 _ _ rfl (YR.alloc HY1 (.cells #[.int .i64 (up + uj)] 3)).a ⟨w1.heap.size, 0, none⟩ 1 1 [.int .i64 (up + uj)] rfl rfl (news1 _ _ _) (one_one _) (by decide) (lim1 hN4) (lim2 hN4) (by have := (HS1.alloc (.cells #[.int .i64 (up + uj)] 3)).2.2.size; exact this) _ rfl ?_
                intro g2 cap2 w2 hown2 hgrow2 hat2 hlt2'
                refine hK _ _ (S20.grown (HS1.alloc (.cells #[.int .i64 (up + uj)] 3)) (YR.alloc HY1 (.cells #[.int .i64 (up + uj)] 3)).a hgrow2) ?_
                have HY2 := YR.appA (YR.alloc HY1 (.cells #[.int .i64 (up + uj)] 3)) hown2 rfl rfl hgrow2 (hat2.imp (fun h => h.symm) (fun h => by rw [h]; rfl))
                have HB2 := Lib.hid (S20.grown (HS1.alloc (.cells #[.int .i64 (up + uj)] 3)) (YR.alloc HY1 (.cells #[.int .i64 (up + uj)] 3)).a hgrow2)
                have HT2 := Lib.hid (blk_grown1 (blk_keep HT1.out (.cells #[.int .i64 (up + uj)] 3)) (YR.alloc HY1 (.cells #[.int .i64 (up + uj)] 3)).a (by decide) hgrow2)
                clear hown2 hgrow2 hat2 hlt2' hK K' HY1 HS1 HT1
                simp only [Act.put, List.setIfInBounds_toArray, List.set_cons_zero, List.set_cons_succ]
                refine pre_last (n := 22) (ts := [23, 24]) rfl (by kernel_rfl) (by kernel_rfl) (by kernel_rfl) ?_
                simp only [pick, List.filterMap_cons, List.filterMap_nil, List.getElem?_cons_succ, List.getElem?_cons_zero]
                have u3 := YR.cell HY2 3
                have u4 := YR.cell HY2 4
                have t3 := YR.fz HY2 3
                have t4 := YR.fz HY2 4
                simp only [List.getElem?_toArray, List.getElem?_cons_succ, List.getElem?_cons_zero] at u3 u4
                have u4' : ∀ v, (w2.setCell ⟨w.heap.size + 1, 3, none⟩ v).cell? ⟨w.heap.size + 1, 4, none⟩ = some va2 := fun v => (World.cell?_setCell_other _ _ _ _ (by simp)).trans u4
                have t4' : ∀ v, (w2.setCell ⟨w.heap.size + 1, 3, none⟩ v).frozen? ⟨w.heap.size + 1, 4, none⟩ = false := fun v => by simpa using t4
                have HYE := Lib.hid HY2
                clear HY2
                iterate 3
                  refine wpList_step (fun K hK => ?_)
                  go_simp
                  refine hK _ _ ?_
                  clear hK K
                refine NoPanic.normal ?_
                go_wp2_with fail
                rw [show y.f3.length + j + 1 = (y.f3 ++ x.f3.take j).length + 1 by simp; omega, show y.f4.length + min j x.f4.length + 1 = (y.f4 ++ (x.f4.take j).map (up + ·)).length + 1 by simp]
                refine ⟨⟨j + 1, .slice (some ⟨g, 0, none⟩) ((y.f3 ++ x.f3.take j).length + 1) cap, .slice (some ⟨g2, 0, none⟩) ((y.f4 ++ (x.f4.take j).map (up + ·)).length + 1) cap2, hlt2, by simp, Lib.hid ?_, Lib.hid ((HB2.out.2.2.setCell (p := ⟨w.heap.size + 1, 3, none⟩) (Nat.le_succ _) _).setCell (p := ⟨w.heap.size + 1, 4, none⟩) (Nat.le_succ _) _), Lib.hid (lblk_set (lblk_set HB2.out.2.1 (Ne.symm hyne)) (Ne.symm hyne)), Lib.hid (lblk_set (lblk_set HT2.out (by omega)) (by omega))⟩, by simp [intOf]; omega⟩
                have HY3 := YR.set (YR.set HYE.out 3 (.slice (some ⟨g, 0, none⟩) ((y.f3 ++ x.f3.take j).length + 1) cap)) 4 (.slice (some ⟨g2, 0, none⟩) ((y.f4 ++ (x.f4.take j).map (up + ·)).length + 1) cap2)
                rw [HTK3.out, HTK4.out, List.map_append, ← List.append_assoc, ← List.append_assoc]
                exact HY3
              · intro K' hK
                go_simp
                refine hK _ _ ((HS.alloc (.cells #[.int .i64 kj] 3)).alloc (.cells #[.int .i64 (up + uj)] 3)) ?_
                clear hK K'
                refine pre_step1 (i := 8) (by kernel_rfl) rfl ?_
                intro K' hK
                refine step_append_lies _ rfl (.tmp 94) (.tmp 100) 55 rfl w.heap.size 3 i0 (.int .i64 0) 1 8 Try.underlying55 hi hz0 hz1 hz2 rfl (by decide) vk2 _ _ rfl (YR.alloc (YR.alloc HYd.out (.cells #[.int .i64 kj] 3)) (.cells #[.int .i64 (up + uj)] 3)).k ⟨wd.heap.size, 0, none⟩ 1 1 [.int .i64 kj] rfl rfl (news2 _ _ _ _) (one_one _) (by decide) (lim1 hN3) (lim2 hN3) (by have := ((HS.alloc (.cells #[.int .i64 kj] 3)).alloc (.cells #[.int .i64 (up + uj)] 3)).2.2.size; exact this) _ rfl ?_
                intro g cap w1 hown hgrow hat hlt
                refine hK _ _ (S20.grown ((HS.alloc (.cells #[.int .i64 kj] 3)).alloc (.cells #[.int .i64 (up + uj)] 3)) (YR.alloc (YR.alloc HYd.out (.cells #[.int .i64 kj] 3)) (.cells #[.int .i64 (up + uj)] 3)).k hgrow) ?_
                have HY1 := YR.appK (YR.alloc (YR.alloc HYd.out (.cells #[.int .i64 kj] 3)) (.cells #[.int .i64 (up + uj)] 3)) hown rfl rfl hgrow (hat.imp (fun h => h.symm) (fun h => by rw [h]; rfl))
                have HS1 := S20.grown ((HS.alloc (.cells #[.int .i64 kj] 3)).alloc (.cells #[.int .i64 (up + uj)] 3)) (YR.alloc (YR.alloc HYd.out (.cells #[.int .i64 kj] 3)) (.cells #[.int .i64 (up + uj)] 3)).k hgrow
                have HT1 := Lib.hid (blk_grown1 (blk_keep (blk_keep HTd.out (.cells #[.int .i64 kj] 3)) (.cells #[.int .i64 (up + uj)] 3)) (YR.alloc (YR.alloc HYd.out (.cells #[.int .i64 kj] 3)) (.cells #[.int .i64 (up + uj)] 3)).k (by decide) hgrow)
                have HN1 := newsG (blk1 wd (.cells #[.int .i64 kj] 3) (.cells #[.int .i64 (up + uj)] 3)) (fun i hi => Nat.lt_succ_of_lt (own_lt HYd.out.k i hi)) hgrow
                clear hown hgrow hat hlt hK K'
                simp only [Act.put, List.setIfInBounds_toArray, List.set_cons_zero, List.set_cons_succ]
                refine pre_take [] (i := 21) (v := ?_) rfl (by kernel_rfl) (Or.inl ⟨by rfl, ?_⟩) HS1 ?_
                rotate_left 1
                · intro w' hSw
                  go_simp
                  with_reducible rfl
                simp only [Act.put, List.setIfInBounds_toArray, List.set_cons_zero, List.set_cons_succ]
                refine pre_step1 (i := 20) (by kernel_rfl) rfl ?_
                intro K' hK
                refine step_append_lies _ rfl (.tmp 103) (.tmp 112) 55 rfl w.heap.size 3 i0 (.int .i64 0) 1 8 Try.underlying55 hi hz0 hz1 hz2 rfl (by decide) va2 _ _ rfl HY1.a ⟨wd.heap.size + 1, 0, none⟩ 1 1 [.int .i64 (up + uj)] rfl rfl HN1 (one_one _) (by decide) (lim1 hN4) (lim2 hN4) (by have := HS1.2.2.size; exact this) _ rfl ?_
                intro g2 cap2 w2 hown2 hgrow2 hat2 hlt2'
                refine hK _ _ (S20.grown HS1 HY1.a hgrow2) ?_
                have HY2 := YR.appA HY1 hown2 rfl rfl hgrow2 (hat2.imp (fun h => h.symm) (fun h => by rw [h]; rfl))
                have HB2 := Lib.hid (S20.grown HS1 HY1.a hgrow2)
                have HT2 := Lib.hid (blk_grown1 HT1.out HY1.a (by decide) hgrow2)
                clear hown2 hgrow2 hat2 hlt2' hK K' HY1 HS1 HT1 HN1
                simp only [Act.put, List.setIfInBounds_toArray, List.set_cons_zero, List.set_cons_succ]
                refine pre_last (n := 22) (ts := [23, 24]) rfl (by kernel_rfl) (by kernel_rfl) (by kernel_rfl) ?_
                simp only [pick, List.filterMap_cons, List.filterMap_nil, List.getElem?_cons_succ, List.getElem?_cons_zero]
                have u3 := YR.cell HY2 3
                have u4 := YR.cell HY2 4
                have t3 := YR.fz HY2 3
                have t4 := YR.fz HY2 4
                simp only [List.getElem?_toArray, List.getElem?_cons_succ, List.getElem?_cons_zero] at u3 u4
                have u4' : ∀ v, (w2.setCell ⟨w.heap.size + 1, 3, none⟩ v).cell? ⟨w.heap.size + 1, 4, none⟩ = some va2 := fun v => (World.cell?_setCell_other _ _ _ _ (by simp)).trans u4
                have t4' : ∀ v, (w2.setCell ⟨w.heap.size + 1, 3, none⟩ v).frozen? ⟨w.heap.size + 1, 4, none⟩ = false := fun v => by simpa using t4
                have HYE := Lib.hid HY2
                clear HY2
                iterate 3
                  refine wpList_step (fun K hK => ?_)
                  go_simp
                  refine hK _ _ ?_
                  clear hK K
                refine NoPanic.normal ?_
                go_wp2_with fail
                rw [show y.f3.length + j + 1 = (y.f3 ++ x.f3.take j).length + 1 by simp; omega, show y.f4.length + min j x.f4.length + 1 = (y.f4 ++ (x.f4.take j).map (up + ·)).length + 1 by simp]
                refine ⟨⟨j + 1, .slice (some ⟨g, 0, none⟩) ((y.f3 ++ x.f3.take j).length + 1) cap, .slice (some ⟨g2, 0, none⟩) ((y.f4 ++ (x.f4.take j).map (up + ·)).length + 1) cap2, hlt2, by simp, Lib.hid ?_, Lib.hid ((HB2.out.2.2.setCell (p := ⟨w.heap.size + 1, 3, none⟩) (Nat.le_succ _) _).setCell (p := ⟨w.heap.size + 1, 4, none⟩) (Nat.le_succ _) _), Lib.hid (lblk_set (lblk_set HB2.out.2.1 (Ne.symm hyne)) (Ne.symm hyne)), Lib.hid (lblk_set (lblk_set HT2.out (by omega)) (by omega))⟩, by simp [intOf]; omega⟩
                have HY3 := YR.set (YR.set HYE.out 3 (.slice (some ⟨g, 0, none⟩) ((y.f3 ++ x.f3.take j).length + 1) cap)) 4 (.slice (some ⟨g2, 0, none⟩) ((y.f4 ++ (x.f4.take j).map (up + ·)).length + 1) cap2)
                rw [HTK3.out, HTK4.out, List.map_append, ← List.append_assoc, ← List.append_assoc]
                exact HY3
            · intro K' hK
              go_simp
              refine hK _ _ (HS.alloc (.cells #[.int .i64 (up + uj)] 3)) ?_
              clear hK K'
              refine pre_step1 (i := 7) (by kernel_rfl) rfl ?_
              intro K' hK
              go_simp
              refine hK _ _ ((HS.alloc (.cells #[.int .i64 (up + uj)] 3)).alloc (.cells #[.int .i64 kj] 3)) ?_
              clear hK K'
              refine pre_step1 (i := 8) (by kernel_rfl) rfl ?_
              intro K' hK
              refine step_append_lies _ rfl (.tmp 94) (.tmp 100) 55 rfl w.heap.size 3 i0 (.int .i64 0) 1 8 Try.underlying55 hi hz0 hz1 hz2 rfl (by decide) vk2 _ _ rfl (YR.alloc (YR.alloc HYd.out (.cells #[.int .i64 (up + uj)] 3)) (.cells #[.int .i64 kj] 3)).k ⟨wd.heap.size + 1, 0, none⟩ 1 1 [.int .i64 kj] rfl rfl (newsH (blk1 wd (.cells #[.int .i64 (up + uj)] 3) (.cells #[.int .i64 kj] 3))) (one_one _) (by decide) (lim1 hN3) (lim2 hN3) (by have := ((HS.alloc (.cells #[.int .i64 (up + uj)] 3)).alloc (.cells #[.int .i64 kj] 3)).2.2.size; exact this) _ rfl ?_
              intro g cap w1 hown hgrow hat hlt
              refine hK _ _ (S20.grown ((HS.alloc (.cells #[.int .i64 (up + uj)] 3)).alloc (.cells #[.int .i64 kj] 3)) (YR.alloc (YR.alloc HYd.out (.cells #[.int .i64 (up + uj)] 3)) (.cells #[.int .i64 kj] 3)).k hgrow) ?_
              have HY1 := YR.appK (YR.alloc (YR.alloc HYd.out (.cells #[.int .i64 (up + uj)] 3)) (.cells #[.int .i64 kj] 3)) hown rfl rfl hgrow (hat.imp (fun h => h.symm) (fun h => by rw [h]; rfl))
              have HS1 := S20.grown ((HS.alloc (.cells #[.int .i64 (up + uj)] 3)).alloc (.cells #[.int .i64 kj] 3)) (YR.alloc (YR.alloc HYd.out (.cells #[.int .i64 (up + uj)] 3)) (.cells #[.int .i64 kj] 3)).k hgrow
              have HT1 := Lib.hid (blk_grown1 (blk_keep (blk_keep HTd.out (.cells #[.int .i64 (up + uj)] 3)) (.cells #[.int .i64 kj] 3)) (YR.alloc (YR.alloc HYd.out (.cells #[.int .i64 (up + uj)] 3)) (.cells #[.int .i64 kj] 3)).k (by decide) hgrow)
              have HN1 := newsG (blk_keep (Deep.blk_alloc_new wd (.cells #[.int .i64 (up + uj)] 3)) (.cells #[.int .i64 kj] 3)) (own_lt HYd.out.k) hgrow
              clear hown hgrow hat hlt hK K'
              simp only [Act.put, List.setIfInBounds_toArray, List.set_cons_zero, List.set_cons_succ]
              refine pre_take [] (i := 21) (v := ?_) rfl (by kernel_rfl) (Or.inl ⟨by rfl, ?_⟩) HS1 ?_
              rotate_left 1
              · intro w' hSw
                go_simp
                with_reducible rfl
              simp only [Act.put, List.setIfInBounds_toArray, List.set_cons_zero, List.set_cons_succ]
              refine pre_step1 (i := 20) (by kernel_rfl) rfl ?_
              intro K' hK
              refine step_append_lies _ rfl (.tmp 103) (.tmp 112) 55 rfl w.heap.size 3 i0 (.int .i64 0) 1 8 Try.underlying55 hi hz0 hz1 hz2 rfl (by decide) va2 _ _ rfl HY1.a ⟨wd.heap.size, 0, none⟩ 1 1 [.int .i64 (up + uj)] rfl rfl HN1 (one_one _) (by decide) (lim1 hN4) (lim2 hN4) (by have := HS1.2.2.size; exact this) _ rfl ?_
              intro g2 cap2 w2 hown2 hgrow2 hat2 hlt2'
              refine hK _ _ (S20.grown HS1 HY1.a hgrow2) ?_
              have HY2 := YR.appA HY1 hown2 rfl rfl hgrow2 (hat2.imp (fun h => h.symm) (fun h => by rw [h]; rfl))
              have HB2 := Lib.hid (S20.grown HS1 HY1.a hgrow2)
              have HT2 := Lib.hid (blk_grown1 HT1.out HY1.a (by decide) hgrow2)
              clear hown2 hgrow2 hat2 hlt2' hK K' HY1 HS1 HT1 HN1
              simp only [Act.put, List.setIfInBounds_toArray, List.set_cons_zero, List.set_cons_succ]
              refine pre_last (n := 22) (ts := [23, 24]) rfl (by kernel_rfl) (by kernel_rfl) (by kernel_rfl) ?_
              simp only [pick, List.filterMap_cons, List.filterMap_nil, List.getElem?_cons_succ, List.getElem?_cons_zero]
              have u3 := YR.cell HY2 3
              have u4 := YR.cell HY2 4
              have t3 := YR.fz HY2 3
              have t4 := YR.fz HY2 4
              simp only [List.getElem?_toArray, List.getElem?_cons_succ, List.getElem?_cons_zero] at u3 u4
              have u4' : ∀ v, (w2.setCell ⟨w.heap.size + 1, 3, none⟩ v).cell? ⟨w.heap.size + 1, 4, none⟩ = some va2 := fun v => (World.cell?_setCell_other _ _ _ _ (by simp)).trans u4
              have t4' : ∀ v, (w2.setCell ⟨w.heap.size + 1, 3, none⟩ v).frozen? ⟨w.heap.size + 1, 4, none⟩ = false := fun v => by simpa using t4
              have HYE := Lib.hid HY2
              clear HY2
              iterate 3
                refine wpList_step (fun K hK => ?_)
                go_simp
                refine hK _ _ ?_
                clear hK K
              refine NoPanic.normal ?_
              go_wp2_with fail
              rw [show y.f3.length + j + 1 = (y.f3 ++ x.f3.take j).length + 1 by simp; omega, show y.f4.length + min j x.f4.length + 1 = (y.f4 ++ (x.f4.take j).map (up + ·)).length + 1 by simp]
              refine ⟨⟨j + 1, .slice (some ⟨g, 0, none⟩) ((y.f3 ++ x.f3.take j).length + 1) cap, .slice (some ⟨g2, 0, none⟩) ((y.f4 ++ (x.f4.take j).map (up + ·)).length + 1) cap2, hlt2, by simp, Lib.hid ?_, Lib.hid ((HB2.out.2.2.setCell (p := ⟨w.heap.size + 1, 3, none⟩) (Nat.le_succ _) _).setCell (p := ⟨w.heap.size + 1, 4, none⟩) (Nat.le_succ _) _), Lib.hid (lblk_set (lblk_set HB2.out.2.1 (Ne.symm hyne)) (Ne.symm hyne)), Lib.hid (lblk_set (lblk_set HT2.out (by omega)) (by omega))⟩, by simp [intOf]; omega⟩
              have HY3 := YR.set (YR.set HYE.out 3 (.slice (some ⟨g, 0, none⟩) ((y.f3 ++ x.f3.take j).length + 1) cap)) 4 (.slice (some ⟨g2, 0, none⟩) ((y.f4 ++ (x.f4.take j).map (up + ·)).length + 1) cap2)
              rw [HTK3.out, HTK4.out, List.map_append, ← List.append_assoc, ← List.append_assoc]
              exact HY3
          · have hjl : j = x.f3.length := by omega
            subst hjl
            clear hj hlt2
            have e0 := lblk_cell hX.out 0
            simp only [List.getElem?_toArray, List.getElem?_cons_zero] at e0
            have hwx : IntKind.i64.wrap (up + x.f0) = up + x.f0 := by
              have := HUP2.out
              have := HXO.out.size
              rw [IntKind.wrap_i64]
              omega
            go_wp2_with fail
            have hst : stepL y x = { f0 := up + x.f0, f1 := max y.f1 x.f1, f2 := true, f3 := y.f3 ++ x.f3, f4 := y.f4 ++ x.f4.map (up + ·), f5 := y.f5 ++ [up] } := by
              have hc := HC.out
              simp only [stepL, hc, HUPE.out, if_true]
            rw [List.take_length, HXO.out.len, List.take_length] at hY
            refine ⟨⟨k + 1, stepL y x, vk2, va2, .slice A1 (y.f5.length + 1) k1, by omega, by simp, Lib.hid (by rw [HTK.out, foldL_snoc, ← hy.out, HX.out]), Lib.hid ?_, Lib.hid (hB.out.setCell (p := ⟨w.heap.size + 1, 0, none⟩) (Nat.le_succ _) _), Lib.hid (yOk_step hYO.out HXO.out), Lib.hid (lblk_set hTj.out (by omega))⟩, by simp [intOf]; omega⟩
            rw [hst]
            exact YR.set hY.out 0 _
      · have HC := Lib.hid (show (y.f2 && x.f2 && decide (y.f3.length + x.f3.length ≤ 16)) = false by simp [hc1])
        rw [hc1] at p2
        have HX6' : Hid (W6.heap[w3.heap.size]? = some (.cells #[.int .i64 x.f0, .int .i64 x.f1, .bool x.f2, .slice A3 x.f3.length c3, .slice A4 x.f4.length c4, .slice A5 x.f5.length c5] 130)) := HX6
        have hY7 : YAt (W6.setCell ⟨w.heap.size + 1, 2, none⟩ (.bool false)) w.heap.size (w.heap.size + 1) { f0 := up, f1 := max y.f1 x.f1, f2 := false, f3 := y.f3, f4 := y.f4, f5 := y.f5 ++ [up] } (.slice Ak y.f3.length ck) va (.slice A1 (y.f5.length + 1) k1) := YR.set HY6.out 2 _
        go_wp2_with fail
        go_loopw [9] (fun i wj => i = .int .i64 0 ∧ Hid (YAt wj w.heap.size (w.heap.size + 1) { f0 := up, f1 := max y.f1 x.f1, f2 := false, f3 := y.f3, f4 := y.f4, f5 := y.f5 ++ [up] } (.slice Ak y.f3.length ck) va (.slice A1 (y.f5.length + 1) k1)) ∧ Hid (Below w.heap.size w wj) ∧ Hid (wj.heap[w3.heap.size]? = some (.cells #[.int .i64 x.f0, .int .i64 x.f1, .bool x.f2, .slice A3 x.f3.length c3, .slice A4 x.f4.length c4, .slice A5 x.f5.length c5] 130)) ∧ Hid (wj.heap[w.heap.size]? = some (.cells #[.int .i64 13, .int .i64 0, .int .i64 0, .slice (some ad) F.length c] 124))) (fun _ _ => 0)
        case atStart =>
          exact ⟨rfl, Lib.hid hY7, Lib.hid (HB6.out.setCell (p := ⟨w.heap.size + 1, 2, none⟩) (Nat.le_succ _) _), Lib.hid (lblk_set HX6'.out (Ne.symm hyne)), Lib.hid (lblk_set HT6.out (by omega))⟩
        case round =>
          obtain ⟨rfl, hY, hB, hX, hTj⟩ := hrel
          clear hY7 HX6' HY6 HB6 HX6 HT6 p0 p1 p2 p3 p4 p5 r0 r1 r2 r3 r4 r5 e2 e3
          obtain ⟨p0, p1, p2, p3, p4, p5, r0, r1, r2, r3, r4, r5⟩ := YAt.facts hY.out
          dsimp only at p0 p1 p2 p3 p4 p5
          have e0 := lblk_cell hX.out 0
          simp only [List.getElem?_toArray, List.getElem?_cons_zero] at e0
          have hwx : IntKind.i64.wrap (up + x.f0) = up + x.f0 := by
            have := HUP2.out
            have := HXO.out.size
            rw [IntKind.wrap_i64]
            omega
          go_wp2_with fail
          have hst : stepL y x = { f0 := up + x.f0, f1 := max y.f1 x.f1, f2 := false, f3 := y.f3, f4 := y.f4, f5 := y.f5 ++ [up] } := by
            have hc := HC.out
            simp only [stepL, hc, HUPE.out]
            rfl
          refine ⟨⟨k + 1, stepL y x, .slice Ak y.f3.length ck, va, .slice A1 (y.f5.length + 1) k1, by omega, by simp, Lib.hid (by rw [HTK.out, foldL_snoc, ← hy.out, HX.out]), Lib.hid ?_, Lib.hid (hB.out.setCell (p := ⟨w.heap.size + 1, 0, none⟩) (Nat.le_succ _) _), Lib.hid (yOk_step hYO.out HXO.out), Lib.hid (lblk_set hTj.out (by omega))⟩, by simp [intOf]; omega⟩
          rw [hst]
          exact YR.set hY.out 0 _
      · have HC := Lib.hid (show (y.f2 && x.f2 && decide (y.f3.length + x.f3.length ≤ 16)) = false by simp [hc2])
        rw [hc1] at p2
        rw [hc2] at e2
        have HX6' : Hid (W6.heap[w3.heap.size]? = some (.cells #[.int .i64 x.f0, .int .i64 x.f1, .bool x.f2, .slice A3 x.f3.length c3, .slice A4 x.f4.length c4, .slice A5 x.f5.length c5] 130)) := HX6
        have hY7 : YAt (W6.setCell ⟨w.heap.size + 1, 2, none⟩ (.bool false)) w.heap.size (w.heap.size + 1) { f0 := up, f1 := max y.f1 x.f1, f2 := false, f3 := y.f3, f4 := y.f4, f5 := y.f5 ++ [up] } (.slice Ak y.f3.length ck) va (.slice A1 (y.f5.length + 1) k1) := YR.set HY6.out 2 _
        go_wp2_with fail
        go_loopw [9] (fun i wj => i = .int .i64 0 ∧ Hid (YAt wj w.heap.size (w.heap.size + 1) { f0 := up, f1 := max y.f1 x.f1, f2 := false, f3 := y.f3, f4 := y.f4, f5 := y.f5 ++ [up] } (.slice Ak y.f3.length ck) va (.slice A1 (y.f5.length + 1) k1)) ∧ Hid (Below w.heap.size w wj) ∧ Hid (wj.heap[w3.heap.size]? = some (.cells #[.int .i64 x.f0, .int .i64 x.f1, .bool x.f2, .slice A3 x.f3.length c3, .slice A4 x.f4.length c4, .slice A5 x.f5.length c5] 130)) ∧ Hid (wj.heap[w.heap.size]? = some (.cells #[.int .i64 13, .int .i64 0, .int .i64 0, .slice (some ad) F.length c] 124))) (fun _ _ => 0)
        case atStart =>
          exact ⟨rfl, Lib.hid hY7, Lib.hid (HB6.out.setCell (p := ⟨w.heap.size + 1, 2, none⟩) (Nat.le_succ _) _), Lib.hid (lblk_set HX6'.out (Ne.symm hyne)), Lib.hid (lblk_set HT6.out (by omega))⟩
        case round =>
          obtain ⟨rfl, hY, hB, hX, hTj⟩ := hrel
          clear hY7 HX6' HY6 HB6 HX6 HT6 p0 p1 p2 p3 p4 p5 r0 r1 r2 r3 r4 r5 e2 e3
          obtain ⟨p0, p1, p2, p3, p4, p5, r0, r1, r2, r3, r4, r5⟩ := YAt.facts hY.out
          dsimp only at p0 p1 p2 p3 p4 p5
          have e0 := lblk_cell hX.out 0
          simp only [List.getElem?_toArray, List.getElem?_cons_zero] at e0
          have hwx : IntKind.i64.wrap (up + x.f0) = up + x.f0 := by
            have := HUP2.out
            have := HXO.out.size
            rw [IntKind.wrap_i64]
            omega
          go_wp2_with fail
          have hst : stepL y x = { f0 := up + x.f0, f1 := max y.f1 x.f1, f2 := false, f3 := y.f3, f4 := y.f4, f5 := y.f5 ++ [up] } := by
            have hc := HC.out
            simp only [stepL, hc, HUPE.out]
            rfl
          refine ⟨⟨k + 1, stepL y x, .slice Ak y.f3.length ck, va, .slice A1 (y.f5.length + 1) k1, by omega, by simp, Lib.hid (by rw [HTK.out, foldL_snoc, ← hy.out, HX.out]), Lib.hid ?_, Lib.hid (hB.out.setCell (p := ⟨w.heap.size + 1, 0, none⟩) (Nat.le_succ _) _), Lib.hid (yOk_step hYO.out HXO.out), Lib.hid (lblk_set hTj.out (by omega))⟩, by simp [intOf]; omega⟩
          rw [hst]
          exact YR.set hY.out 0 _
      · have HC := Lib.hid (show (y.f2 && x.f2 && decide (y.f3.length + x.f3.length ≤ 16)) = false by simp [hc3])
        rw [hc1] at p2
        rw [hc2] at e2
        have hle : ¬ ((y.f3.length : Int) + x.f3.length ≤ 16) := by omega
        have HX6' : Hid (W6.heap[w3.heap.size]? = some (.cells #[.int .i64 x.f0, .int .i64 x.f1, .bool x.f2, .slice A3 x.f3.length c3, .slice A4 x.f4.length c4, .slice A5 x.f5.length c5] 130)) := HX6
        have hY7 : YAt (W6.setCell ⟨w.heap.size + 1, 2, none⟩ (.bool false)) w.heap.size (w.heap.size + 1) { f0 := up, f1 := max y.f1 x.f1, f2 := false, f3 := y.f3, f4 := y.f4, f5 := y.f5 ++ [up] } (.slice Ak y.f3.length ck) va (.slice A1 (y.f5.length + 1) k1) := YR.set HY6.out 2 _
        go_wp2_with fail
        go_loopw [9] (fun i wj => i = .int .i64 0 ∧ Hid (YAt wj w.heap.size (w.heap.size + 1) { f0 := up, f1 := max y.f1 x.f1, f2 := false, f3 := y.f3, f4 := y.f4, f5 := y.f5 ++ [up] } (.slice Ak y.f3.length ck) va (.slice A1 (y.f5.length + 1) k1)) ∧ Hid (Below w.heap.size w wj) ∧ Hid (wj.heap[w3.heap.size]? = some (.cells #[.int .i64 x.f0, .int .i64 x.f1, .bool x.f2, .slice A3 x.f3.length c3, .slice A4 x.f4.length c4, .slice A5 x.f5.length c5] 130)) ∧ Hid (wj.heap[w.heap.size]? = some (.cells #[.int .i64 13, .int .i64 0, .int .i64 0, .slice (some ad) F.length c] 124))) (fun _ _ => 0)
        case atStart =>
          exact ⟨rfl, Lib.hid hY7, Lib.hid (HB6.out.setCell (p := ⟨w.heap.size + 1, 2, none⟩) (Nat.le_succ _) _), Lib.hid (lblk_set HX6'.out (Ne.symm hyne)), Lib.hid (lblk_set HT6.out (by omega))⟩
        case round =>
          obtain ⟨rfl, hY, hB, hX, hTj⟩ := hrel
          clear hY7 HX6' HY6 HB6 HX6 HT6 p0 p1 p2 p3 p4 p5 r0 r1 r2 r3 r4 r5 e2 e3
          obtain ⟨p0, p1, p2, p3, p4, p5, r0, r1, r2, r3, r4, r5⟩ := YAt.facts hY.out
          dsimp only at p0 p1 p2 p3 p4 p5
          have e0 := lblk_cell hX.out 0
          simp only [List.getElem?_toArray, List.getElem?_cons_zero] at e0
          have hwx : IntKind.i64.wrap (up + x.f0) = up + x.f0 := by
            have := HUP2.out
            have := HXO.out.size
            rw [IntKind.wrap_i64]
            omega
          go_wp2_with fail
          have hst : stepL y x = { f0 := up + x.f0, f1 := max y.f1 x.f1, f2 := false, f3 := y.f3, f4 := y.f4, f5 := y.f5 ++ [up] } := by
            have hc := HC.out
            simp only [stepL, hc, HUPE.out]
            rfl
          refine ⟨⟨k + 1, stepL y x, .slice Ak y.f3.length ck, va, .slice A1 (y.f5.length + 1) k1, by omega, by simp, Lib.hid (by rw [HTK.out, foldL_snoc, ← hy.out, HX.out]), Lib.hid ?_, Lib.hid (hB.out.setCell (p := ⟨w.heap.size + 1, 0, none⟩) (Nat.le_succ _) _), Lib.hid (yOk_step hYO.out HXO.out), Lib.hid (lblk_set hTj.out (by omega))⟩, by simp [intOf]; omega⟩
          rw [hst]
          exact YR.set hY.out 0 _
    · have hkl : k = F.length := by omega
      subst hkl
      obtain ⟨Ak, ck, rfl⟩ := own_slice hY.out.k
      obtain ⟨Aa, ca, rfl⟩ := own_slice hY.out.a
      obtain ⟨Af, cf, rfl⟩ := own_slice hY.out.f
      obtain ⟨p0, p1, p2, p3, p4, p5, r0, r1, r2, r3, r4, r5⟩ := YAt.facts hY.out
      obtain ⟨hs0, hs1⟩ := hYO.out.size
      have hs2 : y.f0 ≤ 4294967296 := by omega
      have hal := hYO.out.align
      have ha1 : 1 ≤ y.f1 := by omega
      have ha2 : y.f1 ≤ 8 := by omega
      have HUPL := fun wx => up_ok y.f0 y.f1 wx hs0 hs2 ha1 ha2
      clear hal B0
      go_wp2_with (go_at_call 152; refine (HUPL _).mono ?_; rintro e w' ⟨rfl, rfl⟩)
      obtain ⟨W, hW⟩ : ∃ W : World, W = (((((((wr.setCell ⟨w.heap.size + 1, 0, none⟩ (.int .i64 (upN y.f0 y.f1))).setCell ⟨w.heap.size + 1, 0, none⟩ (.int .i64 (upN y.f0 y.f1))).setCell ⟨w.heap.size + 1, 1, none⟩ (.int .i64 y.f1)).setCell ⟨w.heap.size + 1, 2, none⟩ (.bool y.f2)).setCell ⟨w.heap.size + 1, 3, none⟩ (.slice Ak y.f3.length ck)).setCell ⟨w.heap.size + 1, 4, none⟩ (.slice Aa y.f4.length ca)).setCell ⟨w.heap.size + 1, 5, none⟩ (.slice Af y.f5.length cf)) := ⟨_, rfl⟩
      have HYF : YAt W w.heap.size (w.heap.size + 1) { y with f0 := upN y.f0 y.f1 } (.slice Ak y.f3.length ck) (.slice Aa y.f4.length ca) (.slice Af y.f5.length cf) :=
        hW ▸ YR.set (YR.set (YR.set (YR.set (YR.set (YR.set (YR.set hY.out 0 _) 0 _) 1 _) 2 _) 3 _) 4 _) 5 _
      have hBF : Below w.heap.size w W := by
        rw [hW]
        iterate 7 refine Below.setCell ?_ (Nat.le_succ _) _
        exact hB.out
      rw [← hW]
      clear hW p0 p1 p2 p3 p4 p5 r0 r1 r2 r3 r4 r5
      obtain ⟨p0, p1, p2, p3, p4, p5, -⟩ := YAt.facts HYF
      dsimp only at p0 p1 p2 p3 p4 p5
      refine bodyPost_ret (v := .agg #[.int .i64 (upN y.f0 y.f1), .int .i64 y.f1, .bool y.f2, .slice Ak y.f3.length ck, .slice Aa y.f4.length ca, .slice Af y.f5.length cf]) (by simp [results, Try.results121, go_sem, p0, p1, p2, p3, p4, p5]) rfl ⟨⟨_, rfl, ?_⟩, hBF⟩
      have hs : structL ls F = { y with f0 := upN y.f0 y.f1 } := by
        have := hy.out
        rw [List.take_length] at this
        unfold structL
        rw [← this]
      rw [hs]
      exact YAt.val HYF

end Go.Proofs.Ytekoogedhmhpgaa

