/- ConstraintsExclude holds: for every two types the law returns true, and its arguments read as before. No condition. -/
import Derived.Test.YtpdimehoepfgaaaLawE
import Derived.Test.YtpdimehoepfgaaaRow
namespace Go.Proofs.Ytpdimehoepfgaaa
open Go.ChangeShapes Go.WideShapes Go.ChangeAt Go.RowKit Go.Joins

theorem Try.cellsTy : Try.prog.cellsOf 23 = 3 := by kernel_rfl

set_option maxRecDepth 100000 in
theorem exclude_lifted (os : Os) (started : os.Started) (H : Type) (enc : TypeId × Value → H) :
    ReturnsInHanded {} Try.checked os 3 .any (Rows.constraintsExcludeSpec.pre6 enc Try.prog Try.f3 Rows.constraintsExcludeRow.domain false) (Rows.constraintsExcludeSpec.post enc Try.prog Try.f3 false true false false) := by
  refine returnsInHanded_of_change (C := Try.checked) Try.own started (by kernel_rfl) Try.func3
    (ChangeSpec.witness6 (enc := enc) (C := Try.checked) false ⟨#[], #[.agg #[.int .i64 0, .int .i64 0, .string ⟨#[]⟩], .agg #[.int .i64 0, .int .i64 0, .string ⟨#[]⟩]], []⟩ 8 (by kernel_rfl) (by kernel_rfl) (by kernel_rfl) (by kernel_rfl)) ?_
  intro W base args ds gs before hval0 hW hcnd _
  have hval : ∀ (j : Nat) t v, Try.f3.params[j]? = some t → args[j]? = some v → Value.okWide Try.prog W .any base t v := hval0
  have hW' := hW
  obtain ⟨p, q, hA0, hV, rfl, hfz, hnd⟩ := hW
  have hA : DataW.TrodAll enc Try.prog W 0 (fun _ => true) true Try.f3.params.toList args.toList ds p := hA0
  rw [Try.params3] at hA hval
  obtain ⟨v0, v1, d0, d1, p0, p1, rfl, rfl, rfl, h0, h1⟩ := trodAll_two hA
  obtain ⟨rfl, rfl⟩ := trodVars_none hV
  obtain ⟨a0, a1, a2, y0, y1, y2, m, rfl, rfl, rfl, hy0, hy1, hy2⟩ := open_agg3 Try.underlying23 (by kernel_rfl) Try.cellsTy (hval 0 23 v0 rfl rfl) h0
  obtain ⟨b0, b1, b2, z0, z1, z2, m', rfl, rfl, rfl, hz0, hz1, hz2⟩ := open_agg3 Try.underlying23 (by kernel_rfl) Try.cellsTy (hval 1 23 v1 rfl rfl) h1
  obtain ⟨k1, e0, -, -⟩ := DataW.trod_int Try.underlying3 hy0
  obtain ⟨l1, e1, -, -⟩ := DataW.trod_int Try.underlying3 hy1
  obtain ⟨r1, e2, -, -⟩ := DataW.trod_string Try.underlying9 hy2
  obtain ⟨k2, e3, -, -⟩ := DataW.trod_int Try.underlying3 hz0
  obtain ⟨l2, e4, -, -⟩ := DataW.trod_int Try.underlying3 hz1
  obtain ⟨r2, e5, -, -⟩ := DataW.trod_string Try.underlying9 hz2
  simp at e0 e1 e2 e3 e4 e5
  subst e0 e1 e2 e3 e4 e5
  refine (lawExclude_any k1 l1 r1 k2 l2 r2 W).mono fun e W' ⟨he, hb⟩ => ?_
  subst he
  exact ⟨_, rfl, law_post Try.laidOut hW' rfl (by kernel_rfl) rfl (by kernel_rfl) Try.underlying4 hb⟩

theorem constraintsExclude_holds : Rows.ConstraintsExcludeSaid :=
  OpenClaim.holds_of_wide 3 Try.f3 rfl rfl rfl rfl rfl rfl rfl ⟨rfl, rfl, rfl, rfl, rfl⟩ rfl rfl rfl rfl rfl (by kernel_rfl) Try.func3 (by kernel_rfl)
    (of_decide_eq_true (by kernel_rfl)) (by unfold Func.isWrapper; first | (rw [if_pos (by decide +kernel)]; kernel_rfl) | (rw [if_neg (by decide +kernel)]; exact ⟨rfl, rfl⟩))
    (fun os started H enc _ => exclude_lifted os started H enc)

end Go.Proofs.Ytpdimehoepfgaaa
