/- TemplatesUndoes: an edit, and then the edit that undoes it, gives the tree. Part 14 of 14. -/
import Derived.Test.YtfkdkbekmimhoaaGreatDoorUnd13
import Derived.Test.YtfkdkbekmimhoaaGreatDoorCards
import Derived.Test.YtfkdkbekmimhoaaGreatDoorTie
import Derived.Lay
import Derived.LaidLaws
import Derived.ChangeMaps5
import Derived.JoinedCond
import Derived.Deep.DeepHandedRow
/- TemplatesUndoes holds, where what it reads is of bulk at most the form's bound: the law returns true, and its arguments read as before; the card. -/
namespace Go.Proofs.YtfkdkbekmimhoaaGreatDoor
open Go.ChangeShapes Go.WideShapes Go.ChangeAt Go.RowKit Go.Joins Go.ChangeMaps

set_option maxRecDepth 100000 in
theorem und_lifted (os : Os) (started : os.Started) (H : Type) (enc : TypeId × Value → H) (F : Stop.Interp) :
    ReturnsInHanded {} Tryz.checked os 4 .any ((Rows.OpenSpec.upto Rows.templatesUndoesSpec).preRow enc Tryz.prog Tryz.f4 Rows.templatesUndoesUptoRow.domain false Rows.templatesUndoesUptoRow.laid) (((Rows.OpenSpec.upto Rows.templatesUndoesSpec).at F).post enc Tryz.prog Tryz.f4 false true false false) := by
  have hok : Input.okWideB Tryz.prog ((World.laidAll Tryz.prog os Rows.templatesUndoesUptoRow.laid).forCall (fun _ _ => 0) ⟨#[], #[.agg #[.int .i64 0, .string ⟨#[]⟩, .int .i64 0, .int .i64 0, .slice none 0 0], .agg #[.slice none 0 0, .int .i64 0, .int .i64 0, .slice none 0 0, .int .i64 0, .int .i64 0, .int .i64 0]], []⟩) 4 ⟨#[], #[.agg #[.int .i64 0, .string ⟨#[]⟩, .int .i64 0, .int .i64 0, .slice none 0 0], .agg #[.slice none 0 0, .int .i64 0, .int .i64 0, .slice none 0 0, .int .i64 0, .int .i64 0, .int .i64 0]], []⟩ = true := by kernel_rfl
  have hx : DataW.whole enc Tryz.prog ((World.laidAll Tryz.prog os Rows.templatesUndoesUptoRow.laid).forCall (fun _ _ => 0) ⟨#[], #[.agg #[.int .i64 0, .string ⟨#[]⟩, .int .i64 0, .int .i64 0, .slice none 0 0], .agg #[.slice none 0 0, .int .i64 0, .int .i64 0, .slice none 0 0, .int .i64 0, .int .i64 0, .int .i64 0]], []⟩).memory Tryz.f4.params.toList (Rows.OpenSpec.upto Rows.templatesUndoesSpec).vars false (#[.agg #[.int .i64 0, .string ⟨#[]⟩, .int .i64 0, .int .i64 0, .slice none 0 0], .agg #[.slice none 0 0, .int .i64 0, .int .i64 0, .slice none 0 0, .int .i64 0, .int .i64 0, .int .i64 0]] : Array Value).toList 8 = some ([.agg [.lit (.int .i64 0), .lit (.string []), .lit (.int .i64 0), .lit (.int .i64 0), .nil], .agg [.nil, .lit (.int .i64 0), .lit (.int .i64 0), .nil, .lit (.int .i64 0), .lit (.int .i64 0), .lit (.int .i64 0)]], [], []) := by kernel_rfl
  refine returnsInHanded_of_row (C := Tryz.checked) (s := Rows.OpenSpec.upto Rows.templatesUndoesSpec) Tryz.own started (by kernel_rfl) Tryz.func4
    ⟨World.laidAll Tryz.prog os Rows.templatesUndoesUptoRow.laid, fun _ _ => 0, ⟨#[], #[.agg #[.int .i64 0, .string ⟨#[]⟩, .int .i64 0, .int .i64 0, .slice none 0 0], .agg #[.slice none 0 0, .int .i64 0, .int .i64 0, .slice none 0 0, .int .i64 0, .int .i64 0, .int .i64 0]], []⟩, World.laidAll_os _ _ _, World.shaped_of_ZipB (by kernel_rfl) (by kernel_rfl), (Input.okWide_of_okWideB (base := 0) hok).1, (Input.okWide_of_okWideB hok).2,
      OpenSpec.preRow_of_cond 8 hx (by kernel_rfl) (fun k hk => by cases hk; kernel_rfl) (by kernel_rfl) (by rw [MakeChecks.laidMetH_plain _ _ _ (by kernel_rfl)]; exact laidMet_laidAll _ (by kernel_rfl) (by kernel_rfl)), by
        simp only [Assume.holds]
        exact ⟨by simp, by simp, fun _ => Modest.zero, by simp, by simp⟩⟩ ?_
  intro W base args ds gs before hval0 hW _ hcond _ _ _ _
  have hval : ∀ (j : Nat) t v, Tryz.f4.params[j]? = some t → args[j]? = some v → Value.okWide Tryz.prog W .any base t v := hval0
  have hk := hcond _ rfl
  have hW' := hW
  obtain ⟨p, q, hA0, hV, rfl, hfz, hnd⟩ := hW
  have hA : DataW.TrodAll enc Tryz.prog W 0 (fun _ => true) true Tryz.f4.params.toList args.toList ds p := hA0
  rw [Tryz.params4] at hA hval
  obtain ⟨v0, v1, d0, d1, p0, p1, rfl, rfl, rfl, h0, h1⟩ := trodAll_two hA
  obtain ⟨rfl, rfl⟩ := trodVars_none hV
  obtain ⟨cs, rfl, -⟩ := okWide_struct Tryz.underlying24 (hval 0 24 v0 rfl rfl)
  obtain ⟨cs2, rfl, -⟩ := okWide_struct Tryz.underlying30 (hval 1 30 v1 rfl rfl)
  obtain ⟨fuel, hf⟩ := h0
  obtain ⟨fuel2, hf2⟩ := h1
  obtain ⟨t, hT, hc⟩ := open_tree _ hf (Nat.le_refl _)
  obtain ⟨ed, Ap, cp, An, cn, hce, hpc, hnc, hp, hkn, hcl⟩ := open_edit hf2
  obtain ⟨A, c, hcs, hkids⟩ := hT.five
  have hcs' : cs = #[.int .i64 t.kind, .string t.text, .int .i64 t.at_, .int .i64 t.end_, .slice A t.kids.length c] := by
    cases cs
    simpa [Value.cells] using hcs
  have hce' : cs2 = (edC ed Ap cp An cn).toArray := by
    cases cs2
    simpa [Value.cells] using hce
  subst hcs' hce'
  have hb6 : Rows.uptoBulkAll ([d0, d1] ++ []) ≤ 1048576 := of_decide_eq_true hk
  simp only [List.append_nil, Rows.uptoBulkAll] at hb6
  refine (lawU_any t A c ed Ap cp An cn W (by have : 6 * countM t ≤ Rows.uptoBulk d0 := hc; omega) (by have : 6 * countsM ed.new ≤ Rows.uptoBulk d1 := hcl; omega) hkids hT.cap hp hpc hkn).mono fun e W' ⟨he, hb⟩ => ?_
  subst he
  exact ⟨_, rfl, law_post Tryz.laidOut hW' rfl (by kernel_rfl) rfl (by kernel_rfl) Tryz.underlying4 hb⟩

set_option maxRecDepth 100000 in
theorem und_said : Rows.TemplatesUndoesUptoSaid :=
  OpenClaim.holds_of_cond 4 Tryz.f4 rfl rfl rfl rfl rfl rfl rfl ⟨rfl, rfl, rfl, rfl, rfl⟩ rfl rfl rfl rfl rfl (by kernel_rfl) Tryz.func4 und_facts
    (of_decide_eq_true (by kernel_rfl)) (by unfold Func.isWrapper; first | (rw [if_pos (by decide +kernel)]; kernel_rfl) | (rw [if_neg (by decide +kernel)]; exact ⟨rfl, rfl⟩))
    (fun os started H enc _ F => by rw [OpenClaim.pre_eq_preRow]; exact und_lifted os started H enc F)

theorem templatesUndoesUpto_holds : Rows.TemplatesUndoesUptoCardSaid :=
  Claim7.holds_tied_plain_at .later [] _ _ _ _
    und_said (fun _ h => by cases h) (by kernel_rfl) (fun _ h => by cases h) templatesUndoesUpto_row_tie rfl ⟨rfl, rfl⟩ (by kernel_rfl) rfl
    (fun f fn hf hfn => by
      obtain rfl : f = 4 := Option.some.inj ((show Tryz.prog.funcNamed "assessor/assessorlaw39.TemplatesUndoes" = some 4 by kernel_rfl).symm.trans hf) |>.symm
      obtain rfl : fn = Tryz.f4 := (Option.some.inj (Tryz.func4.symm.trans hfn)).symm
      exact ⟨looks_yes, fun j t ht => by
        rw [Tryz.params4] at ht
        have hm : t ∈ [24, 30] := by simpa using Array.mem_of_getElem? ht
        have hall : ([24, 30].all fun u => !Tryz.prog.wantsStandIn u) = true := by kernel_rfl
        exact (show Tryz.prog.wantsStandIn t = false by simpa using List.all_eq_true.1 hall t hm)⟩)
    (by
      have hf : Tryz.prog.funcNamed "assessor/assessorlaw39.TemplatesUndoes" = some 4 := by kernel_rfl
      show false = (((Tryz.prog.funcNamed "assessor/assessorlaw39.TemplatesUndoes").any Tryz.prog.goes) || false)
      rw [hf, Option.any_some, goes_no]
      rfl)
end Go.Proofs.YtfkdkbekmimhoaaGreatDoor
