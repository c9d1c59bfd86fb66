/- ReportCoverage: the law returns true for every text and every numbers. Part 9 of 12. -/
import Derived.Test.YtinpopjnnljkhaaGreatDoorCov08
import Derived.Test.YtinpopjnnljkhaaGreatDoorRows
import Derived.ProofKit
import Derived.Below
import Derived.ChangeSame
import Derived.Lib.SmallJoins
import Derived.Deep.Slices
/- The hook of the scopes; what every law of the chapter checks first. -/
namespace Go.Proofs.YtinpopjnnljkhaaGreatDoor
open Go.RowKit

theorem sorted_of_perm {zs : List Int} {l : List Nat} (h : zs.Perm (l.map fun n : Nat => (n : Int))) (hs : l.Pairwise (· ≤ ·)) : (zs.mergeSort fun x y => decide (x ≤ y)) = l.map fun n : Nat => (n : Int) := by
  have ht : ∀ x y z : Int, (decide (x ≤ y)) = true → (decide (y ≤ z)) = true → (decide (x ≤ z)) = true := by intro x y z h1 h2; simp at *; omega
  have htt : ∀ x y : Int, (decide (x ≤ y) || decide (y ≤ x)) = true := by intro x y; simp; omega
  refine List.Perm.eq_of_pairwise (le := fun x y => x ≤ y) ?_ ?_ ?_ ?_
  · intro x y _ _ h1 h2; omega
  · exact (List.pairwise_mergeSort ht htt zs).imp (by simp)
  · exact List.pairwise_map.2 (hs.imp fun h => by omega)
  · exact (List.mergeSort_perm zs _).trans h
theorem hk_scope : ExOk Tryz.prog 443 (scopeX 3) := by
  refine ex_scope ⟨_, Tryz.func443, by kernel_rfl, by kernel_rfl⟩ (by kernel_rfl) fun v L l w hlen hv hp hs => ?_
  obtain ⟨s, p, rfl, h1, h2⟩ := ScL.of hv
  have hln : (allN s).length = l.length := by rw [h2, List.length_map]; exact hp.length_eq.symm
  refine (all_any s p w h1 (by omega)).mono ?_
  rintro en w' ⟨⟨v, zs, rfl, h3, h4, h5⟩, hb⟩
  have h6 : zs.Perm (l.map fun n : Nat => (n : Int)) := by
    refine h3.trans ?_
    rw [h2]
    exact (hp.map _).symm
  rw [sorted_of_perm h6 hs, hln] at h4
  refine ⟨hb, fun h0 => ?_, fun h0 => ?_⟩
  · rw [h5 (by
      have := h6.length_eq
      rw [h0] at this
      exact List.eq_nil_of_length_eq_zero (by simpa using this))]
  · rcases h4.2 with ⟨_, hn⟩ | ⟨g, off, cap, cur, rfl, g1, g2, g3, g4, g5, g6⟩
    · exact absurd (List.eq_nil_of_length_eq_zero hn) h0
    · refine ⟨g, off, cur, cap, rfl, g1, (Array.getElem?_eq_some_iff.1 g2).1, g2, by omega, g3, by unfold maxLen at g4; omega, fun j n hj => ?_⟩
      have hj2 : j < l.length := (List.getElem?_eq_some_iff.1 hj).1
      have : (ivs (l.map fun n : Nat => (n : Int)))[j]? = some (.int .i64 (n : Int)) := by simp [ivs, hj]
      rw [← g6, List.getElem?_take_of_lt (by omega), List.getElem?_drop] at this
      simpa using this
theorem X45_ok : ∀ f g, X45 f = some g → ExOk Tryz.prog f g.f := by
  intro f g hg
  unfold X45 at hg
  rw [ifB_eq] at hg
  split at hg
  · rename_i e; cases hg; rw [beq_of e]; exact hk_count
  · rw [ifB_eq] at hg
    split at hg
    · rename_i e; cases hg; rw [beq_of e]; exact hk_repeat
    · rw [ifB_eq] at hg
      split at hg
      · rename_i e; cases hg; rw [beq_of e]; exact hk_join
      · rw [ifB_eq] at hg
        split at hg
        · rename_i e; cases hg; rw [beq_of e]; exact hk_scope
        · cases hg
theorem awake_any (w : World) : Calls Tryz.prog 5 #[] w fun e w' => e = .returned (.bool true) ∧ Below w.heap.size w w' := closed_yesX X45_ok (by kernel_rfl) aw_run w
end Go.Proofs.YtinpopjnnljkhaaGreatDoor
/- A call in a region that draws an order, with guards. -/
namespace Go.Proofs.YtinpopjnnljkhaaGreatDoor
open Go.RowKit

theorem wpHG_call {P : Program} {ops : Array Oper} {Q : Exit → Act → World → Prop} {S : World → Prop} {ex : List Nat} {k : Nat} {ss : List Bool} {o : Oper} {rest : List Oper} {a : Act} {w : World} {f : FuncId} {args : Array Value} (hg : Region.wanted o (yielded ops a.tmps) = true)
    (hr : (execOp a.eval o).run P w = .ok (.enter f args) w) (h : Calls P f args w fun e w' => ∃ v, e = .returned v ∧ (ex.contains k = false → S w') ∧ wpHG P ops Q S ex (k + 1) ss rest (a.put o.dst v) w') : wpHG P ops Q S ex k (false :: ss) (o :: rest) a w :=
  ⟨hg, by unfold Oper.wp; rw [hr]; exact h.mono (fun e w' ⟨v, he, h1, h2⟩ => by subst he; exact ⟨h1, h2⟩)⟩
end Go.Proofs.YtinpopjnnljkhaaGreatDoor
/- The law ReportCoverage, walked. -/
namespace Go.Proofs.YtinpopjnnljkhaaGreatDoor
open Go.RowKit

theorem mark_size (L : List (Int × Int)) (k : Nat) : (markM L k).size = 2 := by
  unfold markM
  split
  · rfl
  · split
    · rfl
    · split
      · rfl
      · split <;> rfl
theorem tail_line (m l : ByteArray) (h : m.size = 2) : (m ++ l).extract 2 (m ++ l).size = l := by
  apply ByteArray.ext
  apply Array.toList_inj.1
  rw [Lib.extract_data]
  have e : (m ++ l).data.toList = m.data.toList ++ l.data.toList := by simp
  have hm : m.data.toList.length = 2 := h
  have hs : (m ++ l).size = 2 + l.size := by rw [ByteArray.size_append, h]
  rw [e, hs, List.drop_append_of_le_length (by omega), List.drop_of_length_le (by omega), List.nil_append]
  have : l.data.toList.length = l.size := rfl
  rw [List.take_of_length_le (by omega)]

set_option maxHeartbeats 8000000 in
set_option maxRecDepth 100000 in
theorem lawCov_any (s : ByteArray) (A : Option Addr) (N c : Nat) (L : List (Int × Int)) (w : World) (hL : RowAt 2 pairCells w w.heap.size A L) (hl : L.length = N) (hss : s.size ≤ maxLen) (hNN : N ≤ maxLen) :
    Calls Tryz.prog 3 #[.string s, .slice A N c] w fun e w' => e = .returned (.bool true) ∧ Below w.heap.size w w' := by
  unfold maxLen at hss hNN
  have HAW := Lib.hid (awake_any w)
  have HL := Lib.hid hL
  have HLL := Lib.hid hl
  clear hL hl
  by_cases hs : s.size ≤ 1500
  case neg =>
    have hsi : (1500 : Int) < (s.size : Int) := by omega
    go_enter Tryz.func3, Tryz.ntmps3
    go_wp2_with fail
    refine HAW.out.mono ?_
    rintro e w1 ⟨rfl, hb1⟩
    have HB1 := Lib.hid hb1
    clear hb1
    go_wp2_with fail
    go_ret
    exact ⟨rfl, HB1.out⟩
  have hsi : ¬ (1500 : Int) < (s.size : Int) := by omega
  by_cases hN : N ≤ 200
  case neg =>
    have hni : (200 : Int) < (N : Int) := by omega
    go_enter Tryz.func3, Tryz.ntmps3
    go_wp2_with fail
    refine HAW.out.mono ?_
    rintro e w1 ⟨rfl, hb1⟩
    have HB1 := Lib.hid hb1
    clear hb1
    go_wp2_with fail
    go_ret
    exact ⟨rfl, HB1.out⟩
  have hni : ¬ (200 : Int) < (N : Int) := by omega
  obtain ⟨n, hn⟩ : ∃ n, nlM s = n := ⟨_, rfl⟩
  have hn2 : n ≤ 1501 := by rw [← hn]; have := (stN_len s.data.toList s.size).2; unfold nlM; omega
  have hn1 : 1 ≤ n := by rw [← hn]; have := (stN_len s.data.toList s.size).1; unfold nlM; omega
  have HN := Lib.hid hn
  clear hn
  go_enter Tryz.func3, Tryz.ntmps3
  go_wp2_with fail
  refine HAW.out.mono ?_
  rintro e w1 ⟨rfl, hb1⟩
  have HB1 := Lib.hid hb1
  have HC1 := Lib.hid (Coverage_any s A N c L w1 hs ((HL.out.below hb1 (Nat.le_refl _)).mono hb1.size) HLL.out hN)
  clear hb1
  go_wp2_with fail
  refine HC1.out.mono ?_
  rintro e w2 ⟨⟨v, rfl, ho⟩, hb2⟩
  have hB2 := HB1.out.trans (hb2.mono HB1.out.size)
  have HB2 := Lib.hid hB2
  have HB12 := Lib.hid hb2
  rw [HN.out] at ho
  have HOW := Lib.hid ho
  obtain ⟨g, off, cap, rfl, h1, h2, h3, h4, h5⟩ := ho.form (by omega)
  have hrow : RowAt 1 strCells w2 w2.heap.size (some ⟨g, off, none⟩) (covM s L n) := by
    intro k x hk
    refine ⟨g, off, rfl, h4, fun j u hj => ?_⟩
    match j, hj with
    | 0, hj =>
      have hj : Value.string x = u := by simpa [strCells] using hj
      have := h5 k (.string x) (by unfold strV; rw [List.getElem?_map, hk]; rfl)
      rw [← hj]
      simpa using this
    | j + 1, hj => simp [strCells] at hj
  have HROW := Lib.hid hrow
  clear ho hb2 h5 hB2 hrow
  go_wp2_with fail
  go_loopg [23] n (fun gk si wr => ∃ k : Nat, k + gk = n ∧ si = .int .i64 k ∧ Below w2.heap.size w2 wr)
  case atStart => exact ⟨0, by omega, rfl, Below.refl _ _⟩
  case round =>
    obtain ⟨k, hk, rfl, hB⟩ := hrel
    have hk' : k ≤ n := by omega
    have HK := Lib.hid hk
    have HBr := Lib.hid hB
    have hbs := hB.size
    clear hk
    by_cases hlt : k < n
    · have hki : (k : Int) < (n : Int) := by omega
      have e1 : (covM s L n)[k]? = some (markM L k ++ lineM s (k + 1)) := by unfold covM; rw [List.getElem?_map, List.getElem?_range hlt]; rfl
      obtain ⟨b1, o1, hA1, hb1, hc1⟩ := (HROW.out.below hB (Nat.le_refl _)) k _ e1
      cases hA1
      have x0 : wr.cell? ⟨g, off + k, none⟩ = some (.string (markM L k ++ lineM s (k + 1))) := by simpa using hc1 0 _ rfl
      obtain ⟨x, hx⟩ : ∃ x, markM L k ++ lineM s (k + 1) = x := ⟨_, rfl⟩
      rw [hx] at x0
      have hxs : x.size = 2 + (lineM s (k + 1)).size := by rw [← hx, ByteArray.size_append, mark_size]
      have hxt : x.extract 2 x.size = lineM s (k + 1) := by rw [← hx]; exact tail_line _ _ (mark_size L k)
      have hx2 : ¬ ((x.size : Int) < 2) := by omega
      have hx3 : 2 ≤ x.size := by omega
      have hxm : x.size ≤ 9223372036854775807 := by have := lineM_size s (k + 1); omega
      have HXT := Lib.hid hxt
      have hwr : IntKind.i64.wrap ((k : Int) + 1) = (k : Int) + 1 := IntWalk.i64_in _ (by omega)
      have HCALL := Lib.hid (LineR_any s (k + 1) wr.drew (by omega) (by omega))
      clear hc1 e1 hx hxs hxt hB
      go_wp2_with fail
      refine wp_region_HG (fun _ => True) [] [true, true, true, true, true, true, true, true, true, false, true, true] (by kernel_rfl) (by kernel_rfl) rfl (by kernel_rfl) ?_
      have hS0 : True := trivial
      first | (refine wpHG_off (by rfl) hS0 ?_) | (refine wpHG_soft (by rfl) hS0 (by intro w' hSw; obtain _ := hSw; go_simp; rfl) ?_)
      simp only [Act.put, List.setIfInBounds_toArray, List.set_cons_zero, List.set_cons_succ]
      first | (refine wpHG_off (by rfl) hS0 ?_) | (refine wpHG_soft (by rfl) hS0 (by intro w' hSw; obtain _ := hSw; go_simp; rfl) ?_)
      simp only [Act.put, List.setIfInBounds_toArray, List.set_cons_zero, List.set_cons_succ]
      refine wpHG_soft (v := .bool false) (by rfl) hS0 (by intro w' hSw; go_simp) ?_
      simp only [Act.put, List.setIfInBounds_toArray, List.set_cons_zero, List.set_cons_succ]
      first | (refine wpHG_off (by rfl) hS0 ?_) | (refine wpHG_soft (by rfl) hS0 (by intro w' hSw; obtain _ := hSw; go_simp; rfl) ?_)
      simp only [Act.put, List.setIfInBounds_toArray, List.set_cons_zero, List.set_cons_succ]
      first | (refine wpHG_off (by rfl) hS0 ?_) | (refine wpHG_soft (by rfl) hS0 (by intro w' hSw; obtain _ := hSw; go_simp; rfl) ?_)
      simp only [Act.put, List.setIfInBounds_toArray, List.set_cons_zero, List.set_cons_succ]
      refine wpHG_soft (v := .string (lineM s (k + 1))) (by rfl) hS0 (by intro w' hSw; go_simp; exact HXT.out) ?_
      simp only [Act.put, List.setIfInBounds_toArray, List.set_cons_zero, List.set_cons_succ]
      first | (refine wpHG_off (by rfl) hS0 ?_) | (refine wpHG_soft (by rfl) hS0 (by intro w' hSw; obtain _ := hSw; go_simp; rfl) ?_)
      simp only [Act.put, List.setIfInBounds_toArray, List.set_cons_zero, List.set_cons_succ]
      first | (refine wpHG_off (by rfl) hS0 ?_) | (refine wpHG_soft (by rfl) hS0 (by intro w' hSw; obtain _ := hSw; go_simp; rfl) ?_)
      simp only [Act.put, List.setIfInBounds_toArray, List.set_cons_zero, List.set_cons_succ]
      first | (refine wpHG_off (by rfl) hS0 ?_) | (refine wpHG_soft (by rfl) hS0 (by intro w' hSw; obtain _ := hSw; go_simp; rfl) ?_)
      simp only [Act.put, List.setIfInBounds_toArray, List.set_cons_zero, List.set_cons_succ]
      refine wpHG_call (by rfl) (by go_simp) (HCALL.out.mono ?_)
      rintro e w3 ⟨rfl, hb3⟩
      have HB3 := Lib.hid hb3
      clear hb3
      refine ⟨_, rfl, fun _ => trivial, ?_⟩
      simp only [Act.put, List.setIfInBounds_toArray, List.set_cons_zero, List.set_cons_succ]
      refine wpHG_soft (v := .bool false) (by rfl) hS0 (by intro w' hSw; go_simp) ?_
      simp only [Act.put, List.setIfInBounds_toArray, List.set_cons_zero, List.set_cons_succ]
      first | (refine wpHG_off (by rfl) hS0 ?_) | (refine wpHG_soft (by rfl) hS0 (by intro w' hSw; obtain _ := hSw; go_simp; rfl) ?_)
      simp only [Act.put, List.setIfInBounds_toArray, List.set_cons_zero, List.set_cons_succ]
      refine wpHG_nil ?_
      go_wp2_with fail
      go_roundg (gk - 1)
      case measure => have := HK.out; omega
      case rel => exact ⟨k + 1, by have := HK.out; omega, by go_num, HBr.out.drew.trans (HB3.out.mono HBr.out.size)⟩
    · have hkn : k = n := by omega
      subst hkn
      have hCR := CoverageR_any s A N c L wr hs ((HL.out.below (HB2.out.trans (hB.mono HB2.out.size)) (Nat.le_refl _)).mono (Nat.le_trans HB2.out.size hB.size)) HLL.out hN
      have HCR := Lib.hid hCR
      clear hCR hB
      go_wp2_with fail
      refine HCR.out.mono ?_
      rintro e w4 ⟨⟨v, rfl, ho⟩, hb4⟩
      rw [HN.out] at ho
      obtain ⟨A4, c4, rfl, q1, q2⟩ := ho.shape
      have hr1 := ((HROW.out.below HBr.out (Nat.le_refl _)).mono HBr.out.size).below hb4 (Nat.le_refl _)
      have hr2 := ho.rowAt (cells := strCells) (l := covM s L k) rfl (strV_flat _) (fun _ _ => rfl) (covM_len s L k)
      have HT := Lib.hid (Texts_any _ A4 k k cap c4 (covM s L k) (covM s L k) w4 (hr1.mono hb4.size) hr2 (covM_len s L k) (covM_len s L k) (by omega))
      have HB4 := Lib.hid (HBr.out.trans (hb4.mono HBr.out.size))
      clear ho hb4 hr1 hr2
      go_wp2_with fail
      refine HT.out.mono ?_
      rintro e w5 ⟨rfl, hb5⟩
      have HB5 := Lib.hid (HB2.out.trans ((HB4.out.trans (hb5.mono HB4.out.size)).mono HB2.out.size))
      clear hb5
      go_wp2_with fail
      go_ret
      exact ⟨ret_bool (by simp), HB5.out⟩
end Go.Proofs.YtinpopjnnljkhaaGreatDoor
/- The row of a law: whatever the input the call returns true, and what was there is as it was. -/
namespace Go.Proofs.YtinpopjnnljkhaaGreatDoor
open Go.ChangeShapes Go.WideShapes Go.ChangeAt Go.RowKit

theorem Tryz.own : ownKnob Tryz.prog.godebug = none := by kernel_rfl
theorem Tryz.laidOut : laidOutB Tryz.prog = true := by kernel_rfl

section
variable {H : Type} {enc : TypeId × Value → H} {P : Program}

theorem trodAll_stays (hl : laidOutB P = true) {W W' : World} (hb : Below W.heap.size W W') (sp : Nat → Bool) : ∀ {ts : List TypeId} {vs : List Value} {ds : List (DataW H)} {ps : List MemPlace},
    ts.all (fun t => P.readableRec t && decide (t < P.types.size)) = true → DataW.TrodAll enc P W 0 (fun _ => true) true ts vs ds ps → (∀ x ∈ ps, x.block < W.heap.size) → (∀ x ∈ ps, sp x.block = true) →
    DataW.TrodAll enc P W' 0 sp true ts vs ds ps := by
  intro ts
  induction ts with
  | nil =>
    intro vs ds ps _ h _ _
    cases vs <;> cases ds <;> simp [DataW.TrodAll] at h ⊢
    exact h
  | cons t ts ih =>
    intro vs ds ps hr h hlt hsp
    obtain ⟨v, vs', d, ds', p, q, rfl, rfl, rfl, hd, hrest⟩ := trodAll_cons h
    rw [List.all_cons, Bool.and_eq_true, Bool.and_eq_true] at hr
    refine ⟨p, q, ?_, ih hr.2 hrest (fun x hx => hlt x (by simp [hx])) (fun x hx => hsp x (by simp [hx])), rfl⟩
    exact WideElems.Trod_stays hl hr.1.1 (of_decide_eq_true hr.1.2) hd (fun x hx => hb.same (hlt x (by simp [hx]))) (fun x hx => hsp x (by simp [hx]))

/-- The post of a law without variables, where nothing that was there has turned. -/
theorem law_post (hl : laidOutB P = true) {f : Func} {s : ChangeSpec} {apart fresh handsOn again : Bool} {W W' : World} {args : Array Value} {ds gs : List (DataW H)} {before : List MemPlace} {tb : TypeId}
    (hW : DataW.Whole enc P f.params.toList s.vars apart W args.toList ds gs before) (hv : s.vars = [])
    (hread : f.params.toList.all (fun t => P.readableRec t && decide (t < P.types.size)) = true)
    (hfn : s.fn H (ds ++ gs) = { results := [.lit (.bool true)], args := ds }) (hr : f.resultTypes = #[tb]) (htb : P.underlying tb = some .bool) (hb : Below W.heap.size W W') :
    s.post enc P f apart fresh handsOn again W args (.bool true) W' := by
  have hlt : ∀ p ∈ before, p.block < W.heap.size := fun p hp => hW.lt p hp
  have hW0 := hW
  obtain ⟨p, q, hA, hV, hpq, hz, hn⟩ := hW
  rw [hv] at hV
  obtain ⟨hgs, hq⟩ := trodVars_none hV
  subst hq
  rw [List.append_nil] at hpq
  subst hpq
  have hres : ∀ (b : Nat) (sp : Nat → Bool) (hd : Bool), DataW.TrodAll enc P W' b sp hd f.resultTypes.toList ((Value.bool true).resultList f.resultTypes.size) (s.fn H (ds ++ gs)).results [] := fun b sp hd => by
    rw [hfn, hr]
    exact trodAll_mk1 (shut_bool htb true)
  have hargs : ∀ sp : Nat → Bool, (∀ x ∈ before, sp x.block = true) → DataW.TrodAll enc P W' 0 sp true f.params.toList args.toList (s.fn H (ds ++ gs)).args before := fun sp hsp => by
    rw [hfn]
    exact trodAll_stays hl hb sp hread hA hlt hsp
  have hvars : ∀ sp : Nat → Bool, DataW.TrodVars enc P W' sp s.vars (s.fn H (ds ++ gs)).vars [] := fun sp => by
    rw [hfn, hv]
    rfl
  have hold : ∀ x ∈ before, (fun b => decide (b < W.heap.size)) x.block = true := fun x hx => by simpa using hlt x hx
  refine ⟨ds, gs, before, [], before, [], hW0, hres _ _ _, hargs _ hold, hvars _, World.keptBut_mono (fun x hx => ⟨hx, Or.inr (by simpa using hx)⟩) (hb.frame (· ∈ before)), fun _ => ?_⟩
  refine ⟨ok_one hr rfl (okWide_bool_mk htb true), _, _, ([] ++ before) ++ [], ⟨[] ++ before, [], trodAll_append (hargs _ (fun _ _ => rfl)) (hres _ _ _), hvars _, rfl, ?_, ?_⟩, ?_⟩
  · intro b off hp
    have hin : MemPlace.cell b off ∈ before := by simpa using hp
    rw [hb.frozen (hlt _ hin)]
    exact hz b off hin
  · intro ha
    simpa using hn ha
  · intro x hx _
    simpa using hx
end

end Go.Proofs.YtinpopjnnljkhaaGreatDoor
/- Arguments that came in: a slice of pairs of ints. -/
namespace Go.Proofs.YtinpopjnnljkhaaGreatDoor
open Go.ChangeShapes Go.WideShapes Go.ChangeAt Go.RowKit Go.Deep

theorem list2 {α : Type} {l : List α} (h : l.length = 2) : ∃ a b, l = [a, b] := by
  match l, h with
  | [a, b], _ => exact ⟨a, b, rfl⟩
section
variable {H : Type} {enc : TypeId × Value → H} {w : World} {base : Nat}

theorem Tryz.cellsPair : Tryz.prog.cellsOf 79 = 2 := by kernel_rfl
theorem Tryz.cellsInt : Tryz.prog.cellsOf 3 = 1 := by kernel_rfl

theorem choose_list {α : Type} {p : Nat → α → Prop} : ∀ m : Nat, (∀ i, i < m → ∃ x, p i x) → ∃ l : List α, l.length = m ∧ ∀ i x, l[i]? = some x → p i x := by
  intro m
  induction m with
  | zero => intro _; exact ⟨[], rfl, fun i x h => by simp at h⟩
  | succ m ih =>
    intro h
    obtain ⟨l, hl, hp⟩ := ih (fun i hi => h i (by omega))
    obtain ⟨x, hx⟩ := h m (by omega)
    refine ⟨l ++ [x], by simp [hl], fun i y hy => ?_⟩
    by_cases hi : i < l.length
    · rw [List.getElem?_append_left hi] at hy
      exact hp i y hy
    · rw [List.getElem?_append_right (by omega)] at hy
      have hi0 : i - l.length = 0 := by
        rcases Nat.eq_zero_or_pos (i - l.length) with h0 | h0
        · exact h0
        · rw [List.getElem?_eq_none (by simp; omega)] at hy
          cases hy
      rw [hi0] at hy
      simp at hy
      subst hy
      have : i = m := by omega
      subst this
      exact hx

set_option maxRecDepth 100000 in
/-- A pair that came in. -/
theorem open_pair {fuel : Nat} {cs : List Value} {x : DataW H × List MemPlace} (h : DataW.trod enc Tryz.prog w base (fun _ => true) true fuel 79 cs = some x) :
    ∃ p : Int × Int, cs = [.int .i64 p.1, .int .i64 p.2] := by
  cases fuel with
  | zero => simp [DataW.trod] at h
  | succ n =>
    unfold DataW.trod at h
    rw [Tryz.underlying79] at h
    simp only at h
    split at h
    · rename_i hl
      rw [Tryz.cellsPair] at hl
      obtain ⟨c0, c1, rfl⟩ := list2 hl
      obtain ⟨xs, hp, hd⟩ := Option.map_eq_some_iff.1 h
      have g0 := mapM_some_get hp 0 0 (by rfl)
      have g1 := mapM_some_get hp 1 1 (by rfl)
      have hlen := mapM_some_length hp
      have some_of : ∀ j, j < 2 → ∃ y, xs[j]? = some y := fun j hj => ⟨_, List.getElem?_eq_getElem (by rw [hlen]; simpa using hj)⟩
      obtain ⟨y0, e0⟩ := some_of 0 (by omega)
      obtain ⟨y1, e1⟩ := some_of 1 (by omega)
      rw [e0] at g0
      rw [e1] at g1
      simp [Tryz.cellsInt] at g0 g1
      obtain ⟨a0, k0, -, -⟩ := DataW.trod_int Tryz.underlying3 g0
      obtain ⟨a1, k1, -, -⟩ := DataW.trod_int Tryz.underlying3 g1
      simp only [List.cons.injEq, and_true] at k0 k1
      subst k0 k1
      exact ⟨(a0, a1), rfl⟩
    · cases h

set_option maxRecDepth 100000 in
/-- A slice of pairs that came in. -/
theorem open_pairs {v : Value} {fuel : Nat} {x : DataW H × List MemPlace} (hf : DataW.trod enc Tryz.prog w base (fun _ => true) true fuel 22 [v] = some x) :
    ∃ (A : Option Addr) (n c : Nat) (ps : List (Int × Int)), v = .slice A n c ∧ ps.length = n ∧ n ≤ maxLen ∧ RowAt 2 pairCells w w.heap.size A ps := by
  rcases open_slice Tryz.underlying22 hf with ⟨hcs, _⟩ | ⟨a, len', cap', m, n, D, Pl, hcs, hb, hl, hm, hmm, hx, hi⟩
  · simp at hcs
    subst hcs
    exact ⟨none, 0, 0, [], rfl, rfl, by simp [maxLen], fun k c hk => by simp at hk⟩
  · simp at hcs
    subst hcs
    simp only [if_true] at hmm
    subst hmm
    rw [Tryz.cellsPair] at hi hx
    have hel : ∀ i, i < len' → ∃ p : Int × Int, w.cell? (a.add (i * 2)) = some (.int .i64 p.1) ∧ w.cell? (a.add (i * 2 + 1)) = some (.int .i64 p.2) := fun i hil => by
      obtain ⟨cs', hc, ht⟩ := hi i (by omega)
      obtain ⟨p, rfl⟩ := open_pair ht
      have hg := (World.cells?_some hc).2.2
      have g0 := hg 0 (by omega)
      have g1 := hg 1 (by omega)
      rw [Go.Deep.add_add] at g0 g1
      exact ⟨p, g0, g1⟩
    obtain ⟨l, hll, hlp⟩ := choose_list len' hel
    subst hll
    refine ⟨some a, l.length, m, l, rfl, rfl, by omega, fun k p hk => ?_⟩
    obtain ⟨h1, h2⟩ := hlp k p hk
    obtain ⟨b, off, spot⟩ := a
    have hspot : spot = none := by
      have hkl : k < l.length := (List.getElem?_eq_some_iff.1 hk).1
      obtain ⟨h0, -⟩ := hlp 0 (l[0]'(by omega)) (List.getElem?_eq_getElem (by omega))
      simpa [Addr.add] using World.cell?_spot h0
    subst hspot
    rw [Addr.add_lit] at h1 h2
    have hbl : b < w.heap.size := by
      rcases Nat.lt_or_ge b w.heap.size with h9 | h9
      · exact h9
      · simp [World.cell?, Array.getElem?_eq_none h9] at h1
    refine ⟨b, off, rfl, hbl, fun j u hj => ?_⟩
    match j, hj with
    | 0, hj =>
      simp [pairCells] at hj
      subst hj
      exact h1
    | 1, hj =>
      simp [pairCells] at hj
      subst hj
      rw [Nat.add_assoc]; exact h2
    | j + 2, hj => simp [pairCells] at hj
end
end Go.Proofs.YtinpopjnnljkhaaGreatDoor
