/- The walk of a region that draws its order (XHeld), where operations are guarded. No program is named here. -/
import Derived.Test.YtpdimehoepfgaaaHeld
namespace Go.Proofs.Ytpdimehoepfgaaa

section
variable {P : Program} {ops : Array Oper} {Q : Exit → Act → World → Prop} {md : Region.Mode} {S : World → Prop} {ex : List Nat}

/-- The walk in the order of the text. -/
def wpHG (P : Program) (ops : Array Oper) (Q : Exit → Act → World → Prop) (S : World → Prop) (ex : List Nat) : Nat → List Bool → List Oper → Act → World → Prop
  | _, _, [], a, w => Q .normal a w
  | _, [], _ :: _, _, _ => False
  | k, true :: ss, o :: rest, a, w => ∃ v, YieldsIf P ops S o v a ∧ S w ∧ wpHG P ops Q S ex (k + 1) ss rest (a.put o.dst v) w
  | k, false :: ss, o :: rest, a, w => Region.wanted o (yielded ops a.tmps) = true ∧ o.wp P a w (fun a' w' => (ex.contains k = false → S w') ∧ wpHG P ops Q S ex (k + 1) ss rest a' w') Q

theorem wpAnyT_of_HG (hs : Region.noSelect ops = true) (hQ : ∀ c a b w, Q (.panic c) a w → Q (.panic c) b w) : ∀ (l : List Oper) (ss : List Bool) (k : Nat) (listed : Array Bool) (a : Act) (w : World), (∀ j, l[j]? = ops[k + j]?) → ss.length = l.length →
    heldFrom md ops ex k ss listed = true → wpHG P ops Q S ex k ss l a w → wpAnyT P md ops Q S ex l.length listed a w := by
  intro l
  induction l with
  | nil =>
    intro ss k listed a w hl hss hB h
    have : ss = [] := List.eq_nil_of_length_eq_zero hss
    subst this
    exact ⟨by simpa [heldFrom] using hB, by simpa [wpHG] using h⟩
  | cons o rest ih =>
    intro ss k listed a w hl hss hB h
    have hok : ops[k]? = some o := by have := hl 0; simpa using this.symm
    have hl' : ∀ j, rest[j]? = ops[k + 1 + j]? := fun j => by
      have := hl (j + 1)
      rw [List.getElem?_cons_succ] at this
      rw [this, Nat.add_assoc, Nat.add_comm 1 j]
    cases ss with
    | nil => simp at hss
    | cons s ss =>
      have hss' : ss.length = rest.length := by simpa using hss
      cases s with
      | true =>
        simp only [heldFrom, Bool.and_eq_true] at hB
        obtain ⟨⟨⟨h1, h2⟩, h3⟩, h4⟩ := hB
        obtain ⟨v, hy, hS, h5⟩ := h
        refine wpAnyT_first hok (Region.noSelect_spec hs) (fun j hj => ?_) (fun c a w hq => hQ c _ _ w hq) rest.length listed a w (Region.free_spec hok h1) (by simpa using h2) hy hS (ih ss (k + 1) _ _ w hl' hss' h4 h5)
        exact List.all_eq_true.1 h3 j hj
      | false =>
        simp only [heldFrom, Bool.and_eq_true, beq_iff_eq] at hB
        obtain ⟨h1, h2⟩ := hB
        obtain ⟨hg, h5⟩ := h
        refine ⟨fun h0 => (by rw [h0] at h1; cases h1), fun i hi => ?_⟩
        rw [h1] at hi
        simp at hi
        subst hi
        unfold wpOp
        simp only [hok, hg, if_true]
        refine .inl (Oper.wp_mono (fun a' w' h6 => ⟨fun hn => h6.1 (by simpa using hn), ih ss (i + 1) _ a' w' hl' hss' h2 h6.2⟩) h5)

/-- The beginning. -/
theorem wp_region_HG {id : Nat} {a : Act} {w : World} {l : List Oper} (S : World → Prop) (ex : List Nat) (ss : List Bool) (hm : P.follows .mixedOrders = true) (hs : Region.noSelect l.toArray = true)
    (hl : ss.length = l.length) (hB : heldFrom .any l.toArray ex 0 ss (Array.replicate l.length false) = true) (h : wpHG P l.toArray (NoPanic Q) S ex 0 ss l a w.drew) : (Code.region id l.toArray true).wp P Q a w := by
  refine wp_region_noPanic (wp_region_any hm (wpAny_of_T (S := S) (ex := ex) _ _ _ _ ?_))
  have := wpAnyT_of_HG (P := P) (S := S) (md := .any) hs (Q := NoPanic Q) (fun c a b w hq => (hq : False).elim) l ss 0 (Array.replicate l.length false) a w.drew (fun j => by simp) hl hB h
  simpa using this

theorem wpHG_nil {k : Nat} {ss : List Bool} {a : Act} {w : World} (h : Q .normal a w) : wpHG P ops (NoPanic Q) S ex k ss [] a w := by
  cases ss <;> exact h

theorem wpHG_soft {k : Nat} {ss : List Bool} {o : Oper} {rest : List Oper} {a : Act} {w : World} {v : Value} (hg : Region.wanted o (yielded ops a.tmps) = true) (hS : S w) (hy : ∀ w', S w' → (execOp a.eval o).run P w' = .ok (.value v) w')
    (h : wpHG P ops Q S ex (k + 1) ss rest (a.put o.dst v) w) : wpHG P ops Q S ex k (true :: ss) (o :: rest) a w :=
  ⟨v, .inl ⟨hg, hy⟩, hS, h⟩

/-- An operation whose guard says no. -/
theorem wpHG_off {k : Nat} {ss : List Bool} {o : Oper} {rest : List Oper} {a : Act} {w : World} (hg : Region.wanted o (yielded ops a.tmps) = false) (hS : S w)
    (h : wpHG P ops Q S ex (k + 1) ss rest (a.put o.dst undef) w) : wpHG P ops Q S ex k (true :: ss) (o :: rest) a w :=
  ⟨undef, .inr ⟨hg, rfl⟩, hS, h⟩

/-- A hard operation by its law. -/
theorem wpHG_law {k : Nat} {ss : List Bool} {o : Oper} {rest : List Oper} {a : Act} {w : World} (hg : Region.wanted o (yielded ops a.tmps) = true)
    (h : o.wp P a w (fun a' w' => (ex.contains k = false → S w') ∧ wpHG P ops Q S ex (k + 1) ss rest a' w') Q) : wpHG P ops Q S ex k (false :: ss) (o :: rest) a w := ⟨hg, h⟩

end
end Go.Proofs.Ytpdimehoepfgaaa
