/- ReportCoverage: the law returns true for every text and every numbers. Part 12 of 12. -/
import Derived.Test.YtinpopjnnljkhaaGreatDoorCov11
import Derived.Test.YtinpopjnnljkhaaGreatDoorCards
import Derived.Test.YtinpopjnnljkhaaGreatDoorTie
import Derived.Lay
import Derived.LaidLaws
import Derived.ChangeMaps5
/- ReportCoverage holds: for every text and every numbers the law returns true, and its arguments read as before; the card. -/
namespace Go.Proofs.YtinpopjnnljkhaaGreatDoor
open Go.ChangeShapes Go.WideShapes Go.ChangeAt Go.RowKit Go.Lib Go.Joins Go.ChangeMaps

set_option maxRecDepth 100000 in
theorem cov_lifted (os : Os) (started : os.Started) (H : Type) (enc : TypeId × Value → H) :
    ReturnsInHanded {} Tryz.checked os 3 .any (fun w args => (Rows.reportCoverageSpec.pre enc Tryz.prog Tryz.f3 [] false w args ∧ laidMetH Tryz.prog Rows.reportCoverageRow.laid w) ∧ sizedMet enc Tryz.prog Tryz.f3 (OpenSpec.ofChange Rows.reportCoverageSpec) false w args)
      (Rows.reportCoverageSpec.post enc Tryz.prog Tryz.f3 false true false false) := by
  refine returnsInHanded_of_change_and (C := Tryz.checked) (X := fun w _ => laidMetH Tryz.prog Rows.reportCoverageRow.laid w) (fun _ _ _ hh h => h.of_heap hh) Tryz.own started (by kernel_rfl) Tryz.func3
    (ChangeSpec.witness_shaped (enc := enc) (C := Tryz.checked) (os := os) (X := fun w _ => laidMetH Tryz.prog Rows.reportCoverageRow.laid w) false (World.laidAll Tryz.prog os Rows.reportCoverageRow.laid) #[.string ⟨#[]⟩, .slice none 0 0] 8 (World.laidAll_os _ _ _)
      (World.shaped_of_ZipB (by kernel_rfl) (by kernel_rfl)) (by kernel_rfl) (by kernel_rfl) (by kernel_rfl)
      (by rw [MakeChecks.laidMetH_plain _ _ _ (by kernel_rfl)]; exact laidMet_laidAll _ (by kernel_rfl) (by kernel_rfl))) ?_
  intro W base args ds gs before hval0 hW _ _ _ _
  have hval : ∀ (j : Nat) t v, Tryz.f3.params[j]? = some t → args[j]? = some v → Value.okWide Tryz.prog W .any base t v := hval0
  have hW' := hW
  obtain ⟨p, q, hA0, hV, rfl, hfz, hnd⟩ := hW
  have hA : DataW.TrodAll enc Tryz.prog W 0 (fun _ => true) true Tryz.f3.params.toList args.toList ds p := hA0
  rw [Tryz.params3] at hA hval
  obtain ⟨v0, v1, d0, d1, p0, p1, rfl, rfl, rfl, h0, h1⟩ := trodAll_two hA
  obtain ⟨rfl, rfl⟩ := trodVars_none hV
  obtain ⟨s, rfl, -, rfl, hsz⟩ := open_string Tryz.underlying9 (hval 0 9 v0 rfl rfl) h0
  obtain ⟨a1, len1, cap1, rfl⟩ := okWide_slice Tryz.underlying22 (hval 1 22 v1 rfl rfl)
  obtain ⟨fuel, h1⟩ := h1
  obtain ⟨A, n, c, L, hv, hl, hn, hf⟩ := open_pairs h1
  cases hv
  refine (lawCov_any s _ _ _ L W hf hl hsz hn).mono fun e W' ⟨he, hb⟩ => ?_
  subst he
  exact ⟨_, rfl, law_post Tryz.laidOut hW' rfl (by kernel_rfl) rfl (by kernel_rfl) Tryz.underlying4 hb⟩

theorem cov_said : Rows.ReportCoverageSaid :=
  OpenClaim.holds_of_wide 3 Tryz.f3 rfl rfl rfl rfl rfl rfl rfl ⟨rfl, rfl, rfl, rfl, rfl⟩ rfl rfl rfl rfl rfl (by kernel_rfl) Tryz.func3 cov_facts
    (of_decide_eq_true (by kernel_rfl)) (by unfold Func.isWrapper; first | (rw [if_pos (by decide +kernel)]; kernel_rfl) | (rw [if_neg (by decide +kernel)]; exact ⟨rfl, rfl⟩))
    (fun os started H enc _ => cov_lifted os started H enc)

theorem reportCoverage_holds : Rows.ReportCoverageCardSaid :=
  Claim7.holds_tied_plain_at .later [] [.data, .data, .data, .data, .pinned] true (true, "a3a0e2dca16a8d2cd6ff7c88b4e02cb7293ad5403a67ef37144f346552890474") true
    cov_said (fun _ h => by cases h) (by kernel_rfl) (fun _ h => by cases h) reportCoverage_row_tie rfl ⟨rfl, rfl⟩ (by kernel_rfl) rfl
    (fun f fn hf hfn => by
      obtain rfl : f = 3 := Option.some.inj ((show Tryz.prog.funcNamed "assessor/assessorlaw45.ReportCoverage" = some 3 by kernel_rfl).symm.trans hf) |>.symm
      obtain rfl : fn = Tryz.f3 := (Option.some.inj (Tryz.func3.symm.trans hfn)).symm
      exact ⟨looks_yes, fun j t ht => by
        rw [Tryz.params3] at ht
        have hm : t ∈ [9, 22] := by simpa using Array.mem_of_getElem? ht
        have hall : ([9, 22].all fun u => !Tryz.prog.wantsStandIn u) = true := by kernel_rfl
        exact (show Tryz.prog.wantsStandIn t = false by simpa using List.all_eq_true.1 hall t hm)⟩)
    (by
      have hf : Tryz.prog.funcNamed "assessor/assessorlaw45.ReportCoverage" = some 3 := by kernel_rfl
      show false = (((Tryz.prog.funcNamed "assessor/assessorlaw45.ReportCoverage").any Tryz.prog.goes) || false)
      rw [hf, Option.any_some, goes_no]
      rfl)
end Go.Proofs.YtinpopjnnljkhaaGreatDoor
