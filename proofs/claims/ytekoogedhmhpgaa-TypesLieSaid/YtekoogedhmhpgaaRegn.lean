/- A region that draws its order: operations that leave the world as it is, or yield what no store of the region changes, come first, in an order of the prover's; the others one behind the other. -/
import Derived.StillTail
import Derived.StillTactics
import Derived.Deep.RegionHeld3
namespace Go.Proofs.Ytekoogedhmhpgaa
open Go

section
variable {P : Program} {ops : Array Oper} {Q : Exit → Act → World → Prop} {md : Region.Mode} {S : World → Prop} {D : Array Bool → World → Prop}

/-- Whatever comes up; behind each D is to be shown, of what has come up and of the world. -/
def anyM (P : Program) (md : Region.Mode) (ops : Array Oper) (Q : Exit → Act → World → Prop) (D : Array Bool → World → Prop) : Nat → Array Bool → Act → World → Prop
  | 0, listed, a, w => Region.ready md ops listed = [] ∧ Q .normal a w
  | f + 1, listed, a, w => (Region.ready md ops listed = [] → Q .normal a w) ∧
    ∀ i ∈ Region.ready md ops listed, wpOp P ops Q i (fun a' w' => D (listed.setIfInBounds i true) w' ∧ anyM P md ops Q D f (listed.setIfInBounds i true) a' w') a w

theorem any_of_M (f : Nat) : ∀ (listed : Array Bool) (a : Act) (w : World), anyM P md ops Q D f listed a w → wpAny P md ops Q f listed a w := by
  induction f with
  | zero => intro listed a w h; exact h
  | succ f ih => intro listed a w h; exact ⟨h.1, fun i hi => wpOp_mono (fun a' w' h' => ih _ a' w' h'.2) (h.2 i hi)⟩

theorem getD_set_in {listed : Array Bool} {i j : Nat} (h : listed.getD j true = true) (h2 : listed.getD j false = true) (d : Bool) : (listed.setIfInBounds i true).getD j d = true := by
  by_cases hij : i = j
  · subst hij
    have : i < listed.size := by
      rcases Nat.lt_or_ge i listed.size with h' | h'
      · exact h'
      · simp [Array.getElem?_eq_none h'] at h2
    simp [this]
  · rw [getD_set_ne d hij]
    cases d
    · exact h2
    · exact h

/-- Once the numbers that D hangs on have come up, nothing more is asked. -/
theorem M_of_any {G : Array Bool → Prop} (hG : ∀ listed i, G listed → G (listed.setIfInBounds i true)) (hD : ∀ listed w, G listed → D listed w) (f : Nat) :
    ∀ (listed : Array Bool) (a : Act) (w : World), G listed → wpAny P md ops Q f listed a w → anyM P md ops Q D f listed a w := by
  induction f with
  | zero => intro listed a w _ h; exact h
  | succ f ih => intro listed a w hg h; exact ⟨h.1, fun i hi => wpOp_mono (fun a' w' h' => ⟨hD _ _ (hG _ i hg), ih _ a' w' (hG _ i hg) h'⟩) (h.2 i hi)⟩

/-- What is told of the state a hangs only on what the operation o looks at. -/
def LooksAt (ops : Array Oper) (o : Oper) (Y : Act → Prop) : Prop :=
  ∀ a a', Y a → execOp a'.eval o = execOp a.eval o → Region.wanted o (yielded ops a'.tmps) = Region.wanted o (yielded ops a.tmps) → Y a'

theorem wpOp_putY {j : Nat} {oi oj : Oper} {v : Value} {Y : Act → Prop} (hY : LooksAt ops oi Y) (hj : ops[j]? = some oj) (hap : oi.apart ops oj = true) (hsi : ∀ cs b, oi.op ≠ .select cs b) (hsj : ∀ cs b, oj.op ≠ .select cs b)
    (hQ : ∀ c a w, Q (.panic c) (a.put oi.dst v) w → Q (.panic c) a w) {K : Act → World → Prop} {a : Act} {w : World} (hy : Y a) (h : wpOp P ops Q j K (a.put oi.dst v) w) :
    wpOp P ops Q j (fun a' w' => Y a' ∧ K (a'.put oi.dst v) w') a w := by
  obtain ⟨h1, h2, h3⟩ := Oper.apart_spec hap
  have keep : ∀ (a : Act), Y a → ∀ u, Y (a.put oj.dst u) := fun a hy u => hY _ _ hy (execOp_put oi hsi a oj.dst u h3) (wanted_put oi a oj.dst u h3)
  have keepD : ∀ d, Y { a with defers := d :: a.defers } := fun d => hY _ _ hy rfl rfl
  unfold wpOp at *
  simp only [hj] at *
  rw [wanted_put oj a oi.dst v h1] at h
  split
  · rename_i hw
    simp only [hw, if_true] at h
    rcases h with h | ⟨hasks, hlets⟩
    case inr => exact .inr ⟨by unfold Oper.asks at *; rw [execOp_put oj hsj a oi.dst v h1] at hasks; exact hasks, hlets⟩
    refine .inl ?_
    unfold Oper.wp at *
    rw [execOp_put oj hsj a oi.dst v h1] at h
    generalize (execOp a.eval oj).run P w = r at *
    cases r with
    | ok n w' =>
      cases n <;> simp only [Oper.upon] at h ⊢
      case value u => exact ⟨keep a hy u, by rw [← Act.put_comm a v u h2]; exact h⟩
      case skip => exact ⟨keep a hy _, by rw [← Act.put_comm a v undef h2]; exact h⟩
      case defer d =>
        refine ⟨keep _ (keepD d) _, ?_⟩
        rw [← Act.put_comm _ v undef h2, ← Act.put_defers]
        exact h
      case enter f args =>
        refine Calls.mono h fun e w'' he => ?_
        cases e with
        | returned u => exact ⟨keep a hy u, by rw [← Act.put_comm a v u h2]; exact he⟩
        | panicked c => exact hQ _ _ _ he
        | outgrown => exact he
      case row row args => exact Rows.mono h fun u w'' he => ⟨keep a hy u, by rw [← Act.put_comm a v u h2]; exact he⟩
    | halt x w' =>
      cases x <;> simp only [Oper.upon] at h ⊢
      case panic u => exact hQ _ _ _ h
  · rename_i hw
    simp only [hw] at h
    exact ⟨keep a hy _, by rw [← Act.put_comm a v undef h2]; exact h⟩

/-- What an operation waits for has come up ahead of it. -/
def RClosed (md : Region.Mode) (ops : Array Oper) (listed : Array Bool) : Prop :=
  ∀ k ok, ops[k]? = some ok → listed.getD k false = true → ∀ e ∈ ok.after, Region.binds md e = true → listed.getD e.on false = true
def closedB (md : Region.Mode) (ops : Array Oper) (listed : Array Bool) : Bool :=
  (List.range ops.size).all fun k => !(listed.getD k false) || (match ops[k]? with | some o => o.after.toList.all (fun e => !(Region.binds md e) || listed.getD e.on false) | none => true)
theorem closed_of_B {listed : Array Bool} (h : closedB md ops listed = true) : RClosed md ops listed := by
  intro k ok hk hl e he hb
  have hlt : k < ops.size := (Array.getElem?_eq_some_iff.1 hk).1
  have h1 := List.all_eq_true.1 h k (List.mem_range.2 hlt)
  simp only [hk, hl, Bool.not_true, Bool.false_or] at h1
  have h2 := List.all_eq_true.1 h1 e (Array.mem_toList_iff.2 he)
  simpa only [hb, Bool.not_true, Bool.false_or] using h2
theorem closed_set {j : Nat} {listed : Array Bool} (h : RClosed md ops listed) (hj : j ∈ Region.ready md ops listed) : RClosed md ops (listed.setIfInBounds j true) := by
  intro k ok hk hl e he hb
  by_cases hkj : j = k
  · subst hkj
    obtain ⟨_, oj, hoj, hall⟩ := mem_ready.1 hj
    rw [hk] at hoj
    cases hoj
    exact getD_set_true (hall e he hb)
  · rw [getD_set_ne false hkj] at hl
    exact getD_set_true (h k ok hk hl e he hb)
/-- n waits for the first of ks, that one for the next, and so on to i. -/
def pathB (md : Region.Mode) (ops : Array Oper) : Nat → List Nat → Nat → Bool
  | n, [], i => Region.waitsFor md ops n i
  | n, k :: ks, i => Region.waitsFor md ops n k && pathB md ops k ks i
theorem path_listed {listed : Array Bool} {i : Nat} (hc : RClosed md ops listed) (ks : List Nat) : ∀ n, pathB md ops n ks i = true → (∀ on, ops[n]? = some on → ∀ e ∈ on.after, Region.binds md e = true → listed.getD e.on false = true) → listed.getD i false = true := by
  induction ks with
  | nil =>
    intro n h hn
    obtain ⟨on, hon, e, he, hb, heo⟩ := Region.waitsFor_spec h
    rw [← heo]
    exact hn on hon e he hb
  | cons k ks ih =>
    intro n h hn
    simp only [pathB, Bool.and_eq_true] at h
    obtain ⟨on, hon, e, he, hb, heo⟩ := Region.waitsFor_spec h.1
    have hk := hn on hon e he hb
    rw [heo] at hk
    exact ih k h.2 (fun ok hok e he hb => hc k ok hok hk e he hb)

/-- The operation i may be taken first: till n, which waits for it, has come up, D tells of the world what i needs. -/
theorem anyM_first {n i : Nat} {oi : Oper} {v : Value} {T : World → Prop} {Y : Act → Prop} (hY : LooksAt ops oi Y) (hYo : ∀ (K : Act → World → Prop) a w, Y a → T w → K (a.put oi.dst v) w → wpOp P ops Q i K a w)
    (hi : ops[i]? = some oi) (hsel : ∀ (j : Nat) (o : Oper) cs b, ops[j]? = some o → o.op ≠ .select cs b) (hQ : ∀ c a w, Q (.panic c) (a.put oi.dst v) w → Q (.panic c) a w)
    (hDi : ∀ listed w, D (listed.setIfInBounds i true) w ↔ D listed w) (ps : List Nat) (hw : pathB md ops n ps i = true) (hDT : ∀ listed w, listed.getD n true = false → D listed w → T w) (f : Nat) :
    ∀ (listed : Array Bool) (a : Act) (w : World), RClosed md ops listed → listed.getD n true = false →
      (∀ j oj, ops[j]? = some oj → j ≠ i → listed.getD j true = false → (∀ e ∈ oj.after, Region.binds md e = true → e.on ≠ i) → oi.apart ops oj = true) →
      i ∈ Region.ready md ops listed → Y a → D listed w → anyM P md ops Q D f (listed.setIfInBounds i true) (a.put oi.dst v) w → anyM P md ops Q D (f + 1) listed a w := by
  induction f with
  | zero =>
    intro listed a w _ hnl _ hr hy hd H
    refine ⟨fun h => (by rw [h] at hr; cases hr), fun j hj => ?_⟩
    by_cases hji : j = i
    · subst hji; exact hYo _ _ _ hy (hDT _ _ hnl hd) ⟨(hDi _ _).2 hd, H⟩
    · have := ready_mono hj hji
      rw [H.1] at this
      cases this
  | succ f ih =>
    intro listed a w hcl hnl hfree hr hy hd H
    refine ⟨fun h => (by rw [h] at hr; cases hr), fun j hj => ?_⟩
    by_cases hji : j = i
    · subst hji; exact hYo _ _ _ hy (hDT _ _ hnl hd) ⟨(hDi _ _).2 hd, H⟩
    · have h1 := H.2 j (ready_mono hj hji)
      obtain ⟨hjun, oj, hoj, hall⟩ := mem_ready.1 hj
      have hun := (mem_ready.1 hr).1
      have hnot : ∀ e ∈ oj.after, Region.binds md e = true → e.on ≠ i := fun e he hb heq => by
        have h1 := hall e he hb
        rw [heq, getD_both hun] at h1
        cases h1
      have h2 := wpOp_putY hY hoj (hfree j oj hoj hji hjun hnot) (fun cs b => hsel i oi cs b hi) (fun cs b => hsel j oj cs b hoj) hQ hy h1
      have hfree' : ∀ k ok, ops[k]? = some ok → k ≠ i → (listed.setIfInBounds j true).getD k true = false →
          (∀ e ∈ ok.after, Region.binds md e = true → e.on ≠ i) → oi.apart ops ok = true := fun k ok hk hki hk0 hno => by
        refine hfree k ok hk hki ?_ hno
        by_cases hjk : j = k
        · subst hjk; exact hjun
        · rwa [getD_set_ne true hjk] at hk0
      have hcomm : (listed.setIfInBounds i true).setIfInBounds j true = (listed.setIfInBounds j true).setIfInBounds i true := Array.setIfInBounds_comm _ _ (Ne.symm hji)
      refine wpOp_mono (fun a' w' h3 => ?_) h2
      obtain ⟨hy', hs', hm'⟩ := h3
      rw [hcomm] at hm' hs'
      have hs2 : D (listed.setIfInBounds j true) w' := (hDi _ _).1 hs'
      have hjn : j ≠ n := fun h0 => by
        subst h0
        have h1 := path_listed hcl ps j hw (fun on hon => by rw [hoj] at hon; cases hon; exact hall)
        rw [getD_both hun] at h1
        cases h1
      exact ⟨hs2, ih (listed.setIfInBounds j true) a' w' (closed_set hcl hj) (by rw [getD_set_ne true hjn]; exact hnl) hfree' (ready_mono hr (Ne.symm hji)) hy' hs2 hm'⟩

/-- One behind the other, and no other. -/
def ordB (md : Region.Mode) (ops : Array Oper) : List Nat → Array Bool → Bool
  | [], listed => (Region.ready md ops listed).isEmpty
  | k :: ks, listed => decide (Region.ready md ops listed = [k]) && ordB md ops ks (listed.setIfInBounds k true)

theorem any_of_ord (ks : List Nat) : ∀ (l : List Oper) (listed : Array Bool) (a : Act) (w : World), ks.map (fun k => ops[k]?) = l.map some → ordB md ops ks listed = true → wpList P ops Q l a w → wpAny P md ops Q l.length listed a w := by
  induction ks with
  | nil =>
    intro l listed a w hl hB h
    cases l with
    | nil => exact ⟨by simpa [ordB] using hB, h⟩
    | cons => cases hl
  | cons k ks ih =>
    intro l listed a w hl hB h
    cases l with
    | nil => cases hl
    | cons o l =>
      simp only [List.map_cons, List.cons.injEq] at hl
      simp only [ordB, Bool.and_eq_true, decide_eq_true_eq] at hB
      refine ⟨fun h1 => (by rw [hB.1] at h1; cases h1), fun i hi => ?_⟩
      rw [hB.1] at hi
      have hik : i = k := by simpa using hi
      subst hik
      have hw : wpOp P ops Q i (wpList P ops Q l) a w := by unfold wpOp; simp only [hl.1]; exact h
      exact wpOp_mono (fun a' w' h' => ih l _ a' w' hl.2 hB.2 h') hw

/-- What is asked of the world: w0 itself till n has come up; S till n2 has. -/
def Ask (n n2 : Nat) (w0 : World) (S : World → Prop) (listed : Array Bool) (w : World) : Prop := (listed.getD n true = false → w = w0) ∧ (listed.getD n2 true = false → S w)
theorem ask_set {n n2 i : Nat} {w0 : World} {S : World → Prop} (h1 : i ≠ n) (h2 : i ≠ n2) (listed : Array Bool) (w : World) : Ask n n2 w0 S (listed.setIfInBounds i true) w ↔ Ask n n2 w0 S listed w := by
  unfold Ask
  rw [getD_set_ne true h1, getD_set_ne true h2]

/-- Each may be taken first, in this order: true: n waits for it; false: n2 does. Then n, n2, ts, one behind the other. -/
def mixB (md : Region.Mode) (ops : Array Oper) (n n2 : Nat) (ts : List Nat) : List (Bool × Nat) → Array Bool → Bool
  | [], listed => ordB md ops (n :: n2 :: ts) listed && (decide (n < listed.size) && (decide (n2 < listed.size) && decide (n ≠ n2)))
  | (b, k) :: ks, listed => ((Region.ready md ops listed).contains k && Region.free md ops listed k) && (Region.waitsFor md ops (if b then n else n2) k && (decide (k ≠ n) && decide (k ≠ n2))) && decide (listed.getD (if b then n else n2) true = false) && (closedB md ops listed && mixB md ops n n2 ts ks (listed.setIfInBounds k true))

/-- true: it leaves the world w as it is; false: it yields its value in every world that meets S. -/
def wpMix (P : Program) (ops : Array Oper) (w : World) (S : World → Prop) (K : Act → Prop) : List (Bool × Oper) → Act → Prop
  | [], a => K a
  | (true, o) :: os, a => wpStill P ops w (wpMix P ops w S K os) [o] a
  | (false, o) :: os, a => ∃ v, YieldsIf P ops S o v a ∧ wpMix P ops w S K os (a.put o.dst v)

theorem wpMix_nil {w : World} {K : Act → Prop} {a : Act} (h : K a) : wpMix P ops w S K [] a := h
theorem wpMix_yes {w : World} {K : Act → Prop} {o : Oper} {os : List (Bool × Oper)} {a : Act} (h : wpStill P ops w (wpMix P ops w S K os) [o] a) : wpMix P ops w S K ((true, o) :: os) a := h
theorem wpMix_no {w : World} {K : Act → Prop} {o : Oper} {os : List (Bool × Oper)} {a : Act} {v : Value} (hy : YieldsIf P ops S o v a) (h : wpMix P ops w S K os (a.put o.dst v)) : wpMix P ops w S K ((false, o) :: os) a := ⟨v, hy, h⟩

theorem M_of_tail {n n2 : Nat} {ts : List Nat} {w0 : World} (o : Oper) (l : List Oper) (listed : Array Bool) (a : Act) (w : World) (ho : ops[n]? = some o) (hl : (n2 :: ts).map (fun k => ops[k]?) = l.map some) (hn : n < listed.size) (hn2 : n2 < listed.size) (hne : n ≠ n2)
    (hB : ordB md ops (n :: n2 :: ts) listed = true) (h : wpOp P ops Q n (fun a' w' => S w' ∧ wpList P ops Q l a' w') a w) : anyM P md ops Q (Ask n n2 w0 S) (l.length + 1) listed a w := by
  simp only [ordB, Bool.and_eq_true, decide_eq_true_eq] at hB
  obtain ⟨hB1, hB2, hB3⟩ := hB
  refine ⟨fun h1 => (by rw [hB1] at h1; cases h1), fun i hi => ?_⟩
  rw [hB1] at hi
  have hik : i = n := by simpa using hi
  subst hik
  have hg : ∀ d, (listed.setIfInBounds i true).getD i d = true := fun d => by simp [hn]
  refine wpOp_mono (fun a' w' h' => ⟨⟨fun h0 => (by rw [hg] at h0; cases h0), fun _ => h'.1⟩, ?_⟩) h
  cases l with
  | nil => cases hl
  | cons o2 l =>
    simp only [List.map_cons, List.cons.injEq] at hl
    refine ⟨fun h1 => (by rw [hB2] at h1; cases h1), fun j hj => ?_⟩
    rw [hB2] at hj
    have hjk : j = n2 := by simpa using hj
    subst hjk
    have hw : wpOp P ops Q j (wpList P ops Q l) a' w' := by unfold wpOp; simp only [hl.1]; exact h'.2
    have hg1 : ∀ d, ((listed.setIfInBounds i true).setIfInBounds j true).getD i d = true := fun d => by rw [getD_set_ne d (Ne.symm hne)]; exact hg d
    have hg2 : ∀ d, ((listed.setIfInBounds i true).setIfInBounds j true).getD j d = true := fun d => by simp [hn2]
    refine wpOp_mono (fun a2 w2 h2 => ?_) hw
    have hask : ∀ (listed : Array Bool) (w : World), (∀ d, listed.getD i d = true ∧ listed.getD j d = true) → Ask i j w0 S listed w := fun listed w hh => ⟨fun h0 => (by rw [(hh true).1] at h0; cases h0), fun h0 => (by rw [(hh true).2] at h0; cases h0)⟩
    refine ⟨hask _ _ fun d => ⟨hg1 d, hg2 d⟩, ?_⟩
    exact M_of_any (G := fun listed => ∀ d, listed.getD i d = true ∧ listed.getD j d = true) (fun listed k hh d => ⟨getD_set_in (hh true).1 (hh false).1 d, getD_set_in (hh true).2 (hh false).2 d⟩) (fun listed w hh => hask listed w hh) _ _ _ _ (fun d => ⟨hg1 d, hg2 d⟩) (any_of_ord ts l _ a2 w2 hl.2 hB3 h2)

theorem M_of_mix {n n2 : Nat} {ts : List Nat} {on : Oper} {tl : List Oper} {w : World} (hsel : Region.noSelect ops = true) (hQ : ∀ c (a a' : Act) w, Q (.panic c) a w → Q (.panic c) a' w) (hon : ops[n]? = some on) (ht : (n2 :: ts).map (fun k => ops[k]?) = tl.map some) (hS : S w) (ks : List (Bool × Nat)) :
    ∀ (l : List (Bool × Oper)) (listed : Array Bool) (a : Act), ks.map (fun k => (k.1, ops[k.2]?)) = l.map (fun o => (o.1, some o.2)) → mixB md ops n n2 ts ks listed = true →
      wpMix P ops w S (fun a' => wpOp P ops Q n (fun a' w' => S w' ∧ wpList P ops Q tl a' w') a' w) l a → anyM P md ops Q (Ask n n2 w S) (l.length + (tl.length + 1)) listed a w := by
  induction ks with
  | nil =>
    intro l listed a hl hB h
    cases l with
    | nil =>
      simp only [mixB, Bool.and_eq_true, decide_eq_true_eq] at hB
      simp only [List.length_nil, Nat.zero_add]
      exact M_of_tail on tl listed a w hon ht hB.2.1 hB.2.2.1 hB.2.2.2 hB.1 h
    | cons => cases hl
  | cons bk ks ih =>
    intro l listed a hl hB h
    cases l with
    | nil => cases hl
    | cons bo l =>
      obtain ⟨b, k⟩ := bk
      obtain ⟨b', o⟩ := bo
      simp only [List.map_cons, List.cons.injEq, Prod.mk.injEq] at hl
      obtain ⟨⟨rfl, hko⟩, hl'⟩ := hl
      simp only [mixB, Bool.and_eq_true, decide_eq_true_eq] at hB
      obtain ⟨⟨⟨⟨hr, hf⟩, hw, hkn, hkn2⟩, hnl⟩, hcl, hB'⟩ := hB
      have hr' : k ∈ Region.ready md ops listed := by simpa using hr
      rw [show ((b, o) :: l).length + (tl.length + 1) = l.length + (tl.length + 1) + 1 by simp only [List.length_cons]; omega]
      have hask : Ask n n2 w S listed w := ⟨fun _ => rfl, fun _ => hS⟩
      cases b with
      | true =>
        have hst : stOp P ops w k (wpMix P ops w S (fun a' => wpOp P ops Q n (fun a' w' => S w' ∧ wpList P ops Q tl a' w') a' w) l) a := by unfold stOp; simp only [hko]; exact h
        obtain ⟨v, hy, hK⟩ := yieldsAt_of_stOp hko hst
        exact anyM_first (n := n) (T := (· = w)) (Y := fun a => YieldsAt P ops w o v a) (fun a a' h h1 h2 => h.of_same h1 h2) (fun K a w' h hw' hk => (by subst hw'; exact wpOp_of_stOp (K := fun a' => K a' w') (fun _ h => h) (h.stOp hko hk)))
          hko (Region.noSelect_spec hsel) (fun c a w h => hQ c _ _ w h) (ask_set hkn hkn2) [] hw (fun listed w' h0 hd => hd.1 h0) _ listed a w (closed_of_B hcl) hnl (Region.free_spec hko hf) hr' hy hask (ih l _ _ hl' hB' hK)
      | false =>
        obtain ⟨v, hy, hK⟩ := h
        exact anyM_first (n := n2) (T := S) (Y := fun a => YieldsIf P ops S o v a) (fun a a' h h1 h2 => h.of_same h1 h2) (fun K a w' h hw' hk => h.wpOp hko hw' hk)
          hko (Region.noSelect_spec hsel) (fun c a w h => hQ c _ _ w h) (ask_set hkn hkn2) [] hw (fun listed w' h0 hd => hd.2 h0) _ listed a w (closed_of_B hcl) hnl (Region.free_spec hko hf) hr' hy hask (ih l _ _ hl' hB' hK)

/-- The operations of these numbers. -/
def pick (l : List Oper) (ks : List Nat) : List Oper := ks.filterMap fun k => l[k]?
def pickB (l : List Oper) (ks : List (Bool × Nat)) : List (Bool × Oper) := ks.filterMap fun k => (l[k.2]?).map fun o => (k.1, o)

/-- The whole region: ks first (true: it leaves the world, and n waits for it; false: it yields in every world that meets S, and n2 waits for it); then n, n2 and ts, one behind the other. -/
theorem wp_region_mix {id : Nat} {a : Act} {w : World} {l : List Oper} (S : World → Prop) (ks : List (Bool × Nat)) (n n2 : Nat) (ts : List Nat) (on : Oper) (hm : P.follows .mixedOrders = true) (hon : l.toArray[n]? = some on)
    (hh : ks.map (fun k => (k.1, l.toArray[k.2]?)) = (pickB l ks).map (fun o => (o.1, some o.2))) (ht : (n2 :: ts).map (fun k => l.toArray[k]?) = (pick l (n2 :: ts)).map some)
    (hlen : (pickB l ks).length + ((pick l (n2 :: ts)).length + 1) = l.length)
    (hB : (Region.noSelect l.toArray && mixB .any l.toArray n n2 ts ks (Array.replicate l.length false)) = true) (hS : S w.drew)
    (h : wpMix P l.toArray w.drew S (fun a' => wpOp P l.toArray (NoPanic Q) n (fun a' w' => S w' ∧ wpList P l.toArray (NoPanic Q) (pick l (n2 :: ts)) a' w') a' w.drew) (pickB l ks) a) : (Code.region id l.toArray true).wp P Q a w := by
  rw [Bool.and_eq_true] at hB
  refine wp_region_noPanic (wp_region_any hm ?_)
  have := any_of_M _ _ _ _ (M_of_mix (Q := NoPanic Q) hB.1 (fun _ _ _ _ h => h) hon ht hS ks (pickB l ks) (Array.replicate l.length false) a hh hB.2 h)
  rw [hlen] at this
  simpa using this
/-! ### By hand: S holds till n has come up -/

def Till (n : Nat) (S : World → Prop) (listed : Array Bool) (w : World) : Prop := listed.getD n true = false → S w

theorem pre_start {id n : Nat} {a : Act} {w : World} {l : List Oper} (sz : Nat) (S : World → Prop) (hm : P.follows .mixedOrders = true) (hsz : l.length = sz)
    (h : anyM P .any l.toArray (NoPanic Q) (Till n S) sz (Array.replicate sz false) a w.drew) : (Code.region id l.toArray true).wp P Q a w :=
  wp_region_noPanic (wp_region_any hm (by subst hsz; have := any_of_M _ _ _ _ h; simpa using this))

theorem pre_take {l : List Oper} {n i f : Nat} (ps : List Nat) {oi : Oper} {v : Value} {listed : Array Bool} {a : Act} {w : World} (hl : l[i]? = some oi)
    (hB : (Region.noSelect l.toArray && Region.free md l.toArray listed i && (Region.ready md l.toArray listed).contains i && pathB md l.toArray n ps i && decide (i ≠ n) && decide (listed.getD n true = false) && closedB md l.toArray listed) = true)
    (hy : YieldsIf P l.toArray S oi v a) (hS : S w) (h : anyM P md l.toArray (NoPanic Q) (Till n S) f (listed.setIfInBounds i true) (a.put oi.dst v) w) : anyM P md l.toArray (NoPanic Q) (Till n S) (f + 1) listed a w := by
  have hi : l.toArray[i]? = some oi := by simpa using hl
  simp only [Bool.and_eq_true, decide_eq_true_eq] at hB
  obtain ⟨⟨⟨⟨⟨⟨hsel, hf⟩, hr⟩, hw⟩, hin⟩, hnl⟩, hcl⟩ := hB
  exact anyM_first (n := n) (T := S) (Y := fun a => YieldsIf P l.toArray S oi v a) (fun a a' h h1 h2 => h.of_same h1 h2) (fun K a w' h hw' hk => h.wpOp hi hw' hk) hi (Region.noSelect_spec hsel) (fun c a w h => h)
    (fun listed w => by unfold Till; rw [getD_set_ne true hin]) ps hw (fun listed w' h0 hd => hd h0) f listed a w (closed_of_B hcl) hnl (Region.free_spec hi hf) (by simpa using hr) hy (fun _ => hS) h

/-- What is asked at a step: it is taken, S holds behind it, and so on. -/
def PreStep (P : Program) (md : Region.Mode) (ops : Array Oper) (Q : Exit → Act → World → Prop) (n : Nat) (S : World → Prop) (f : Nat) (listed : Array Bool) (a : Act) (w : World) (i : Nat) (o : Oper) : Prop :=
  ∀ K' : Act → World → Prop, (∀ a w, S w → anyM P md ops (NoPanic Q) (Till n S) f (listed.setIfInBounds i true) a w → K' a w) → if Region.wanted o (yielded ops a.tmps) = true then Oper.wp P o a w K' (NoPanic Q) else K' (a.put o.dst undef) w

theorem pre_step1 {l : List Oper} {n i f : Nat} {o : Oper} {listed : Array Bool} {a : Act} {w : World} (hr : Region.ready md l.toArray listed = [i]) (hlo : l[i]? = some o) (h : PreStep P md l.toArray Q n S f listed a w i o) :
    anyM P md l.toArray (NoPanic Q) (Till n S) (f + 1) listed a w := by
  have ho : l.toArray[i]? = some o := by simpa using hlo
  refine ⟨fun h0 => (by rw [hr] at h0; cases h0), fun j hj => ?_⟩
  rw [hr] at hj
  have hji : j = i := by simpa using hj
  subst hji
  exact wpOp_step ho (fun K' hK => h K' fun a w hs hm => hK a w ⟨fun _ => hs, hm⟩)

theorem pre_step2 {l : List Oper} {n i j f : Nat} {o o2 : Oper} {listed : Array Bool} {a : Act} {w : World} (hr : Region.ready md l.toArray listed = [i, j]) (hlo : l[i]? = some o) (hlo2 : l[j]? = some o2) (h : PreStep P md l.toArray Q n S f listed a w i o) (h2 : PreStep P md l.toArray Q n S f listed a w j o2) :
    anyM P md l.toArray (NoPanic Q) (Till n S) (f + 1) listed a w := by
  have ho : l.toArray[i]? = some o := by simpa using hlo
  have ho2 : l.toArray[j]? = some o2 := by simpa using hlo2
  refine ⟨fun h0 => (by rw [hr] at h0; cases h0), fun k hk => ?_⟩
  rw [hr] at hk
  have hk' : k = i ∨ k = j := by simpa using hk
  rcases hk' with rfl | rfl
  · exact wpOp_step ho (fun K' hK => h K' fun a w hs hm => hK a w ⟨fun _ => hs, hm⟩)
  · exact wpOp_step ho2 (fun K' hK => h2 K' fun a w hs hm => hK a w ⟨fun _ => hs, hm⟩)

/-- The operation n, and those behind it, one behind the other. -/
theorem pre_last {l : List Oper} {n f : Nat} {o : Oper} {ts : List Nat} {listed : Array Bool} {a : Act} {w : World} (hlo : l[n]? = some o) (ht : ts.map (fun k => l.toArray[k]?) = (pick l ts).map some) (hf : (pick l ts).length = f)
    (hB : (decide (Region.ready md l.toArray listed = [n]) && (ordB md l.toArray ts (listed.setIfInBounds n true) && decide (n < listed.size))) = true) (h : wpList P l.toArray (NoPanic Q) (o :: pick l ts) a w) :
    anyM P md l.toArray (NoPanic Q) (Till n S) (f + 1) listed a w := by
  simp only [Bool.and_eq_true, decide_eq_true_eq] at hB
  obtain ⟨hr, hB, hn⟩ := hB
  have ho : l.toArray[n]? = some o := by simpa using hlo
  subst hf
  have hg : ∀ d, (listed.setIfInBounds n true).getD n d = true := fun d => by simp [hn]
  refine ⟨fun h0 => (by rw [hr] at h0; cases h0), fun j hj => ?_⟩
  rw [hr] at hj
  have hji : j = n := by simpa using hj
  subst hji
  have hw : wpOp P l.toArray (NoPanic Q) j (wpList P l.toArray (NoPanic Q) (pick l ts)) a w := by unfold wpOp; simp only [ho]; exact h
  refine wpOp_mono (fun a2 w2 h2 => ⟨fun h0 => (by rw [hg] at h0; cases h0), ?_⟩) hw
  exact M_of_any (G := fun listed => ∀ d, listed.getD j d = true) (fun listed k hh d => getD_set_in (hh true) (hh false) d) (fun listed w hh h0 => (by rw [hh true] at h0; cases h0)) _ _ _ _ hg (any_of_ord ts (pick l ts) _ a2 w2 ht hB h2)
end
end Go.Proofs.Ytekoogedhmhpgaa
