/- A region that draws its order, walked in the order of the text: the soft operations (they only yield a value, in every world that meets S) and the hard ones (each comes up alone); the operations of 'ex' wait for all soft ones, so S need not hold behind them. Turned from the library's OrdersHeld. No program is named here. -/
import Derived.Deep.RegionHeld3
import Derived.StillTail
import Derived.WalkKit
namespace Go.Proofs.Ytpdimehoepfgaaa

section
variable {P : Program} {ops : Array Oper} {Q : Exit → Act → World → Prop} {md : Region.Mode} {S : World → Prop} {ex : List Nat}

/-- Whatever order is picked from here on, and S holds behind every operation that is carried out, but those of 'ex'. -/
def wpAnyT (P : Program) (md : Region.Mode) (ops : Array Oper) (Q : Exit → Act → World → Prop) (S : World → Prop) (ex : List Nat) : Nat → Array Bool → Act → World → Prop
  | 0, listed, a, w => Region.ready md ops listed = [] ∧ Q .normal a w
  | fuel + 1, listed, a, w =>
    (Region.ready md ops listed = [] → Q .normal a w) ∧
    ∀ i ∈ Region.ready md ops listed, wpOp P ops Q i (fun a' w' => (i ∉ ex → S w') ∧ wpAnyT P md ops Q S ex fuel (listed.setIfInBounds i true) a' w') a w

theorem wpAny_of_T : ∀ (fuel : Nat) (listed : Array Bool) (a : Act) (w : World), wpAnyT P md ops Q S ex fuel listed a w → wpAny P md ops Q fuel listed a w
  | 0, _, _, _, h => h
  | fuel + 1, _, _, _, h => ⟨h.1, fun i hi => wpOp_mono (fun a' w' h' => wpAny_of_T fuel _ a' w' h'.2) (h.2 i hi)⟩

theorem wpAnyT_first {i : Nat} {oi : Oper} {v : Value} (hi : ops[i]? = some oi) (hsel : ∀ (j : Nat) (o : Oper) cs b, ops[j]? = some o → o.op ≠ .select cs b)
    (hex : ∀ j ∈ ex, Region.waitsFor md ops j i = true)
    (hQ : ∀ c a w, Q (.panic c) (a.put oi.dst v) w → Q (.panic c) a w) :
    ∀ (fuel : Nat) (listed : Array Bool) (a : Act) (w : World),
      (∀ j oj, ops[j]? = some oj → j ≠ i → listed.getD j true = false → (∀ e ∈ oj.after, Region.binds md e = true → e.on ≠ i) → oi.apart ops oj = true) →
      i ∈ Region.ready md ops listed → YieldsIf P ops S oi v a → S w →
      wpAnyT P md ops Q S ex fuel (listed.setIfInBounds i true) (a.put oi.dst v) w → wpAnyT P md ops Q S ex (fuel + 1) listed a w := by
  intro fuel
  induction fuel with
  | zero =>
    intro listed a w _ hr hy hS H
    refine ⟨fun h => (by rw [h] at hr; cases hr), fun j hj => ?_⟩
    by_cases hji : j = i
    · subst hji; exact hy.wpOp hi hS ⟨fun _ => hS, H⟩
    · have := ready_mono hj hji
      rw [H.1] at this
      cases this
  | succ fuel ih =>
    intro listed a w hfree hr hy hS H
    refine ⟨fun h => (by rw [h] at hr; cases hr), fun j hj => ?_⟩
    by_cases hji : j = i
    · subst hji; exact hy.wpOp hi hS ⟨fun _ => hS, H⟩
    · have h1 := H.2 j (ready_mono hj hji)
      obtain ⟨hjun, oj, hoj, hall⟩ := mem_ready.1 hj
      have hnot : ∀ e ∈ oj.after, Region.binds md e = true → e.on ≠ i := fun e he hb heq => by
        have h1 := hall e he hb
        have h0 := (mem_ready.1 hr).1
        rw [heq] at h1
        rcases Nat.lt_or_ge i listed.size with h' | h'
        · simp [h'] at h0 h1; rw [h0] at h1; cases h1
        · simp [Array.getElem?_eq_none h'] at h1
      have hjex : j ∉ ex := fun hm => by
        obtain ⟨oj', hj', e, he, hb, hon⟩ := Region.waitsFor_spec (hex j hm)
        rw [hoj] at hj'
        cases hj'
        exact hnot e he hb hon
      have h2 := wpOp_putIf hoj (hfree j oj hoj hji hjun hnot) (fun cs b => hsel i oi cs b hi) (fun cs b => hsel j oj cs b hoj) hQ hy h1
      have hfree' : ∀ k ok, ops[k]? = some ok → k ≠ i → (listed.setIfInBounds j true).getD k true = false →
          (∀ e ∈ ok.after, Region.binds md e = true → e.on ≠ i) → oi.apart ops ok = true := fun k ok hk hki hun hno => by
        refine hfree k ok hk hki ?_ hno
        by_cases hjk : j = k
        · subst hjk; exact hjun
        · rw [getD_set_ne true hjk] at hun; exact hun
      refine wpOp_mono (fun a' w' h3 => ⟨h3.2.1, ih (listed.setIfInBounds j true) a' w' hfree' (ready_mono hr (Ne.symm hji)) h3.1 (h3.2.1 hjex) ?_⟩) h2
      rw [Array.setIfInBounds_comm _ _ hji]
      exact h3.2.2

/-- The walk in the order of the text. -/
def wpHS (P : Program) (ops : Array Oper) (Q : Exit → Act → World → Prop) (S : World → Prop) (ex : List Nat) : Nat → List Bool → List Oper → Act → World → Prop
  | _, _, [], a, w => Q .normal a w
  | _, [], _ :: _, _, _ => False
  | k, true :: ss, o :: rest, a, w => ∃ v, YieldsIf P ops S o v a ∧ S w ∧ wpHS P ops Q S ex (k + 1) ss rest (a.put o.dst v) w
  | k, false :: ss, o :: rest, a, w => o.guard = none ∧ o.wp P a w (fun a' w' => (ex.contains k = false → S w') ∧ wpHS P ops Q S ex (k + 1) ss rest a' w') Q

/-- May the operations come up so? -/
def heldFrom (md : Region.Mode) (ops : Array Oper) (ex : List Nat) : Nat → List Bool → Array Bool → Bool
  | _, [], listed => (Region.ready md ops listed).isEmpty
  | k, true :: ss, listed => Region.free md ops listed k && (Region.ready md ops listed).contains k && ex.all (fun j => Region.waitsFor md ops j k) && heldFrom md ops ex (k + 1) ss (listed.setIfInBounds k true)
  | k, false :: ss, listed => (Region.ready md ops listed == [k]) && heldFrom md ops ex (k + 1) ss (listed.setIfInBounds k true)

theorem wpAnyT_of_HS (hs : Region.noSelect ops = true) (hQ : ∀ c a b w, Q (.panic c) a w → Q (.panic c) b w) : ∀ (l : List Oper) (ss : List Bool) (k : Nat) (listed : Array Bool) (a : Act) (w : World), (∀ j, l[j]? = ops[k + j]?) → ss.length = l.length →
    heldFrom md ops ex k ss listed = true → wpHS P ops Q S ex k ss l a w → wpAnyT P md ops Q S ex l.length listed a w := by
  intro l
  induction l with
  | nil =>
    intro ss k listed a w hl hss hB h
    have : ss = [] := List.eq_nil_of_length_eq_zero hss
    subst this
    exact ⟨by simpa [heldFrom] using hB, by simpa [wpHS] using h⟩
  | cons o rest ih =>
    intro ss k listed a w hl hss hB h
    have hok : ops[k]? = some o := by have := hl 0; simpa using this.symm
    have hl' : ∀ j, rest[j]? = ops[k + 1 + j]? := fun j => by
      have := hl (j + 1)
      rw [List.getElem?_cons_succ] at this
      rw [this, Nat.add_assoc, Nat.add_comm 1 j]
    cases ss with
    | nil => simp at hss
    | cons s ss =>
      have hss' : ss.length = rest.length := by simpa using hss
      cases s with
      | true =>
        simp only [heldFrom, Bool.and_eq_true] at hB
        obtain ⟨⟨⟨h1, h2⟩, h3⟩, h4⟩ := hB
        obtain ⟨v, hy, hS, h5⟩ := h
        refine wpAnyT_first hok (Region.noSelect_spec hs) (fun j hj => ?_) (fun c a w hq => hQ c _ _ w hq) rest.length listed a w (Region.free_spec hok h1) (by simpa using h2) hy hS (ih ss (k + 1) _ _ w hl' hss' h4 h5)
        exact List.all_eq_true.1 h3 j hj
      | false =>
        simp only [heldFrom, Bool.and_eq_true, beq_iff_eq] at hB
        obtain ⟨h1, h2⟩ := hB
        obtain ⟨hg, h5⟩ := h
        refine ⟨fun h0 => (by rw [h0] at h1; cases h1), fun i hi => ?_⟩
        rw [h1] at hi
        simp at hi
        subst hi
        have hw : Region.wanted o (yielded ops a.tmps) = true := by simp [Region.wanted, hg]
        unfold wpOp
        simp only [hok, hw, if_true]
        refine .inl (Oper.wp_mono (fun a' w' h6 => ⟨fun hn => h6.1 (by simpa using hn), ih ss (i + 1) _ a' w' hl' hss' h2 h6.2⟩) h5)

/-- The beginning. -/
theorem wp_region_HS {id : Nat} {a : Act} {w : World} {l : List Oper} (S : World → Prop) (ex : List Nat) (ss : List Bool) (hm : P.follows .mixedOrders = true) (hs : Region.noSelect l.toArray = true)
    (hl : ss.length = l.length) (hB : heldFrom .any l.toArray ex 0 ss (Array.replicate l.length false) = true) (h : wpHS P l.toArray (NoPanic Q) S ex 0 ss l a w.drew) : (Code.region id l.toArray true).wp P Q a w := by
  refine wp_region_noPanic (wp_region_any hm (wpAny_of_T (S := S) (ex := ex) _ _ _ _ ?_))
  have := wpAnyT_of_HS (P := P) (S := S) (md := .any) hs (Q := NoPanic Q) (fun c a b w hq => (hq : False).elim) l ss 0 (Array.replicate l.length false) a w.drew (fun j => by simp) hl hB h
  simpa using this

theorem wpHS_nil {k : Nat} {ss : List Bool} {a : Act} {w : World} (h : Q .normal a w) : wpHS P ops (NoPanic Q) S ex k ss [] a w := by
  cases ss <;> exact h

theorem wpHS_soft {k : Nat} {ss : List Bool} {o : Oper} {rest : List Oper} {a : Act} {w : World} {v : Value} (hg : o.guard = none) (hS : S w) (hy : ∀ w', S w' → (execOp a.eval o).run P w' = .ok (.value v) w')
    (h : wpHS P ops Q S ex (k + 1) ss rest (a.put o.dst v) w) : wpHS P ops Q S ex k (true :: ss) (o :: rest) a w :=
  ⟨v, .inl ⟨by simp [Region.wanted, hg], hy⟩, hS, h⟩

/-- A hard operation that is run. -/
theorem wpHS_run {k : Nat} {ss : List Bool} {o : Oper} {rest : List Oper} {a : Act} {w w' : World} {v : Value} (hg : o.guard = none) (hr : (execOp a.eval o).run P w = .ok (.value v) w') (hS : ex.contains k = false → S w')
    (h : wpHS P ops Q S ex (k + 1) ss rest (a.put o.dst v) w') : wpHS P ops Q S ex k (false :: ss) (o :: rest) a w :=
  ⟨hg, by unfold Oper.wp; rw [hr]; exact ⟨hS, h⟩⟩

theorem wpHS_skip {k : Nat} {ss : List Bool} {o : Oper} {rest : List Oper} {a : Act} {w w' : World} (hg : o.guard = none) (hr : (execOp a.eval o).run P w = .ok .skip w') (hS : ex.contains k = false → S w')
    (h : wpHS P ops Q S ex (k + 1) ss rest (a.put o.dst undef) w') : wpHS P ops Q S ex k (false :: ss) (o :: rest) a w :=
  ⟨hg, by unfold Oper.wp; rw [hr]; exact ⟨hS, h⟩⟩

/-- A hard operation by its law. -/
theorem wpHS_law {k : Nat} {ss : List Bool} {o : Oper} {rest : List Oper} {a : Act} {w : World} (hg : o.guard = none)
    (h : o.wp P a w (fun a' w' => (ex.contains k = false → S w') ∧ wpHS P ops Q S ex (k + 1) ss rest a' w') Q) : wpHS P ops Q S ex k (false :: ss) (o :: rest) a w := ⟨hg, h⟩

end
end Go.Proofs.Ytpdimehoepfgaaa
