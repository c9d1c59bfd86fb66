/- ReportOrder: the law returns true for every source and every diagnostics. Part 17 of 17. -/
import Derived.Test.YtinpopjnnljkhaaGreatDoorOrd16
import Derived.Test.YtinpopjnnljkhaaGreatDoorCards
import Derived.Test.YtinpopjnnljkhaaGreatDoorTie
import Derived.Lay
import Derived.LaidLaws
import Derived.ChangeMaps5
import Derived.LaidSub
import Derived.Lib.LaidTab
/- ReportOrder holds: for every text and every diagnostics the law returns true, and its arguments read as before; the card. -/
namespace Go.Proofs.YtinpopjnnljkhaaGreatDoor
open Go.ChangeShapes Go.WideShapes Go.ChangeAt Go.RowKit Go.Lib Go.Joins Go.ChangeMaps

set_option maxRecDepth 100000 in
theorem ord_tab {W : World} (hL : laidMetH Tryz.prog Rows.reportOrderRow.laid W) : TabOk W := by
  have h1 := laidMetH.filter (fun x => x.1 == "internal/strconv.uint64pow10") hL
  have h2 : (Rows.reportOrderRow.laid.filter fun x => x.1 == "internal/strconv.uint64pow10") = [("internal/strconv.uint64pow10", Lib.tabData .u64 Lib.pow10Tab)] := rfl
  rw [h2, MakeChecks.laidMetH_plain _ _ _ (by kernel_rfl)] at h1
  exact Lib.tabIs_of_head (g := 1) (by kernel_rfl) (by kernel_rfl) Tryz.underlying463 Tryz.underlying229 (by kernel_rfl) (by kernel_rfl) h1

set_option maxRecDepth 100000 in
theorem ord_lifted (os : Os) (started : os.Started) (H : Type) (enc : TypeId × Value → H) :
    ReturnsInHanded {} Tryz.checked os 4 .any (fun w args => (Rows.reportOrderSpec.pre enc Tryz.prog Tryz.f4 [] false w args ∧ laidMetH Tryz.prog Rows.reportOrderRow.laid w) ∧ sizedMet enc Tryz.prog Tryz.f4 (OpenSpec.ofChange Rows.reportOrderSpec) false w args)
      (Rows.reportOrderSpec.post enc Tryz.prog Tryz.f4 false true false false) := by
  refine returnsInHanded_of_change_and (C := Tryz.checked) (X := fun w _ => laidMetH Tryz.prog Rows.reportOrderRow.laid w) (fun _ _ _ hh h => h.of_heap hh) Tryz.own started (by kernel_rfl) Tryz.func4
    (ChangeSpec.witness_shaped (enc := enc) (C := Tryz.checked) (os := os) (X := fun w _ => laidMetH Tryz.prog Rows.reportOrderRow.laid w) false (World.laidAll Tryz.prog os Rows.reportOrderRow.laid) #[.string ⟨#[]⟩, .slice none 0 0] 8 (World.laidAll_os _ _ _)
      (World.shaped_of_ZipB (by kernel_rfl) (by kernel_rfl)) (by kernel_rfl) (by kernel_rfl) (by kernel_rfl)
      (by rw [MakeChecks.laidMetH_plain _ _ _ (by kernel_rfl)]; exact laidMet_laidAll _ (by kernel_rfl) (by kernel_rfl))) ?_
  intro W base args ds gs before hval0 hW _ _ hL _
  have hval : ∀ (j : Nat) t v, Tryz.f4.params[j]? = some t → args[j]? = some v → Value.okWide Tryz.prog W .any base t v := hval0
  have hW' := hW
  obtain ⟨p, q, hA0, hV, rfl, hfz, hnd⟩ := hW
  have hA : DataW.TrodAll enc Tryz.prog W 0 (fun _ => true) true Tryz.f4.params.toList args.toList ds p := hA0
  rw [Tryz.params4] at hA hval
  obtain ⟨v0, v1, d0, d1, p0, p1, rfl, rfl, rfl, h0, h1⟩ := trodAll_two hA
  obtain ⟨rfl, rfl⟩ := trodVars_none hV
  obtain ⟨s, rfl, -, rfl, hsz⟩ := open_string Tryz.underlying9 (hval 0 9 v0 rfl rfl) h0
  obtain ⟨a1, len1, cap1, rfl⟩ := okWide_slice Tryz.underlying29 (hval 1 29 v1 rfl rfl)
  obtain ⟨fuel, h1⟩ := h1
  obtain ⟨A, n, c, xs, hv, hl, hn, hX, hT, hG⟩ := open_diags h1
  cases hv
  have hTab : TabOk W := ord_tab hL
  refine (lawOrd_any s _ _ _ xs W hX (fun x hx => (hG x hx).1) hl hT (fun x hx => (hG x hx).2.1) hTab hsz hn (fun x hx => (hG x hx).2.2.1) (fun x hx => (hG x hx).2.2.2)).mono fun e W' ⟨he, hb⟩ => ?_
  subst he
  exact ⟨_, rfl, law_post Tryz.laidOut hW' rfl (by kernel_rfl) rfl (by kernel_rfl) Tryz.underlying4 hb⟩

theorem ord_said : Rows.ReportOrderSaid :=
  OpenClaim.holds_of_wide 4 Tryz.f4 rfl rfl rfl rfl rfl rfl rfl ⟨rfl, rfl, rfl, rfl, rfl⟩ rfl rfl rfl rfl rfl (by kernel_rfl) Tryz.func4 ord_facts
    (of_decide_eq_true (by kernel_rfl)) (by unfold Func.isWrapper; first | (rw [if_pos (by decide +kernel)]; kernel_rfl) | (rw [if_neg (by decide +kernel)]; exact ⟨rfl, rfl⟩))
    (fun os started H enc _ => ord_lifted os started H enc)

theorem reportOrder_holds : Rows.ReportOrderCardSaid :=
  Claim7.holds_tied_plain_at .later [] [.data, .data, .data, .data, .pinned] true (true, "a3a0e2dca16a8d2cd6ff7c88b4e02cb7293ad5403a67ef37144f346552890474") true
    ord_said (fun _ h => by cases h) (by kernel_rfl) (fun _ h => by cases h) reportOrder_row_tie rfl ⟨rfl, rfl⟩ (by kernel_rfl) rfl
    (fun f fn hf hfn => by
      obtain rfl : f = 4 := Option.some.inj ((show Tryz.prog.funcNamed "assessor/assessorlaw45.ReportOrder" = some 4 by kernel_rfl).symm.trans hf) |>.symm
      obtain rfl : fn = Tryz.f4 := (Option.some.inj (Tryz.func4.symm.trans hfn)).symm
      exact ⟨looks_yes, fun j t ht => by
        rw [Tryz.params4] at ht
        have hm : t ∈ [9, 29] := by simpa using Array.mem_of_getElem? ht
        have hall : ([9, 29].all fun u => !Tryz.prog.wantsStandIn u) = true := by kernel_rfl
        exact (show Tryz.prog.wantsStandIn t = false by simpa using List.all_eq_true.1 hall t hm)⟩)
    (by
      have hf : Tryz.prog.funcNamed "assessor/assessorlaw45.ReportOrder" = some 4 := by kernel_rfl
      show false = (((Tryz.prog.funcNamed "assessor/assessorlaw45.ReportOrder").any Tryz.prog.goes) || false)
      rw [hf, Option.any_some, goes_no]
      rfl)
end Go.Proofs.YtinpopjnnljkhaaGreatDoor
