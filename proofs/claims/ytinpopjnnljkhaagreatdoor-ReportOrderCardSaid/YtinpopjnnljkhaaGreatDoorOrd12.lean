/- ReportOrder: the law returns true for every source and every diagnostics. Part 12 of 17. -/
import Derived.Test.YtinpopjnnljkhaaGreatDoorOrd11
/- The hook of the scopes; what every law of the chapter checks first. -/
namespace Go.Proofs.YtinpopjnnljkhaaGreatDoor
open Go.RowKit

theorem sorted_of_perm {zs : List Int} {l : List Nat} (h : zs.Perm (l.map fun n : Nat => (n : Int))) (hs : l.Pairwise (· ≤ ·)) : (zs.mergeSort fun x y => decide (x ≤ y)) = l.map fun n : Nat => (n : Int) := by
  have ht : ∀ x y z : Int, (decide (x ≤ y)) = true → (decide (y ≤ z)) = true → (decide (x ≤ z)) = true := by intro x y z h1 h2; simp at *; omega
  have htt : ∀ x y : Int, (decide (x ≤ y) || decide (y ≤ x)) = true := by intro x y; simp; omega
  refine List.Perm.eq_of_pairwise (le := fun x y => x ≤ y) ?_ ?_ ?_ ?_
  · intro x y _ _ h1 h2; omega
  · exact (List.pairwise_mergeSort ht htt zs).imp (by simp)
  · exact List.pairwise_map.2 (hs.imp fun h => by omega)
  · exact (List.mergeSort_perm zs _).trans h
theorem hk_scope : ExOk Tryz.prog 443 (scopeX 3) := by
  refine ex_scope ⟨_, Tryz.func443, by kernel_rfl, by kernel_rfl⟩ (by kernel_rfl) fun v L l w hlen hv hp hs => ?_
  obtain ⟨s, p, rfl, h1, h2⟩ := ScL.of hv
  have hln : (allN s).length = l.length := by rw [h2, List.length_map]; exact hp.length_eq.symm
  refine (all_any s p w h1 (by omega)).mono ?_
  rintro en w' ⟨⟨v, zs, rfl, h3, h4, h5⟩, hb⟩
  have h6 : zs.Perm (l.map fun n : Nat => (n : Int)) := by
    refine h3.trans ?_
    rw [h2]
    exact (hp.map _).symm
  rw [sorted_of_perm h6 hs, hln] at h4
  refine ⟨hb, fun h0 => ?_, fun h0 => ?_⟩
  · rw [h5 (by
      have := h6.length_eq
      rw [h0] at this
      exact List.eq_nil_of_length_eq_zero (by simpa using this))]
  · rcases h4.2 with ⟨_, hn⟩ | ⟨g, off, cap, cur, rfl, g1, g2, g3, g4, g5, g6⟩
    · exact absurd (List.eq_nil_of_length_eq_zero hn) h0
    · refine ⟨g, off, cur, cap, rfl, g1, (Array.getElem?_eq_some_iff.1 g2).1, g2, by omega, g3, by unfold maxLen at g4; omega, fun j n hj => ?_⟩
      have hj2 : j < l.length := (List.getElem?_eq_some_iff.1 hj).1
      have : (ivs (l.map fun n : Nat => (n : Int)))[j]? = some (.int .i64 (n : Int)) := by simp [ivs, hj]
      rw [← g6, List.getElem?_take_of_lt (by omega), List.getElem?_drop] at this
      simpa using this
theorem X45_ok : ∀ f g, X45 f = some g → ExOk Tryz.prog f g.f := by
  intro f g hg
  unfold X45 at hg
  rw [ifB_eq] at hg
  split at hg
  · rename_i e; cases hg; rw [beq_of e]; exact hk_count
  · rw [ifB_eq] at hg
    split at hg
    · rename_i e; cases hg; rw [beq_of e]; exact hk_repeat
    · rw [ifB_eq] at hg
      split at hg
      · rename_i e; cases hg; rw [beq_of e]; exact hk_join
      · rw [ifB_eq] at hg
        split at hg
        · rename_i e; cases hg; rw [beq_of e]; exact hk_scope
        · cases hg
theorem awake_any (w : World) : Calls Tryz.prog 5 #[] w fun e w' => e = .returned (.bool true) ∧ Below w.heap.size w w' := closed_yesX X45_ok (by kernel_rfl) aw_run w
end Go.Proofs.YtinpopjnnljkhaaGreatDoor
/- A call in a region that draws an order, with guards. -/
namespace Go.Proofs.YtinpopjnnljkhaaGreatDoor
open Go.RowKit

theorem wpHG_call {P : Program} {ops : Array Oper} {Q : Exit → Act → World → Prop} {S : World → Prop} {ex : List Nat} {k : Nat} {ss : List Bool} {o : Oper} {rest : List Oper} {a : Act} {w : World} {f : FuncId} {args : Array Value} (hg : Region.wanted o (yielded ops a.tmps) = true)
    (hr : (execOp a.eval o).run P w = .ok (.enter f args) w) (h : Calls P f args w fun e w' => ∃ v, e = .returned v ∧ (ex.contains k = false → S w') ∧ wpHG P ops Q S ex (k + 1) ss rest (a.put o.dst v) w') : wpHG P ops Q S ex k (false :: ss) (o :: rest) a w :=
  ⟨hg, by unfold Oper.wp; rw [hr]; exact h.mono (fun e w' ⟨v, he, h1, h2⟩ => by subst he; exact ⟨h1, h2⟩)⟩
end Go.Proofs.YtinpopjnnljkhaaGreatDoor
