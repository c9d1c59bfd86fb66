/- ConstraintsOrder, walked. -/
import Derived.Test.YtpdimehoepfgaaaLaw
namespace Go.Proofs.Ytpdimehoepfgaaa
open Go.RowKit

set_option maxHeartbeats 2000000 in
theorem lawOrder_any (vert by_ : Int) (AL : Option Addr) (nl cL : Nat) (l : List Con) (w : World) (hL : RowAt 8 conCells w w.heap.size AL l) (hl : l.length = nl) (hcap : nl ≤ cL) (hcm : cL ≤ maxLen) (hb0 : 0 ≤ by_) (hb1 : by_ < 256) :
    Calls Try.prog 6 #[.int .i64 vert, .slice AL nl cL, .int .u8 by_] w fun e w' => e = .returned (.bool true) ∧ Below w.heap.size w w' := by
  obtain ⟨c0, hc0, hcz, hcs, hcb⟩ := info_parts con_info
  have hmx : nl ≤ maxLen := Nat.le_trans hcap hcm
  have HL := Lib.hid hL
  have HLl := Lib.hid hl
  unfold maxLen at hcm
  clear hL hl
  go_enter Try.func6, Try.ntmps6
  go_wp2_with fail
  refine (few_any vert AL nl cL w hmx).mono ?_
  unfold maxLen at hmx
  rintro e w1 ⟨rfl, rfl⟩
  obtain ⟨fb, hfb⟩ : ∃ fb, fewB vert nl = fb := ⟨_, rfl⟩
  rw [hfb]
  have HFB := Lib.hid hfb
  clear hfb
  cases fb
  · go_wp2_with fail
    refine (awake_any _).mono ?_
    rintro e w1 ⟨rfl, hb⟩
    go_wp2_with fail
    go_ret
    exact ⟨rfl, hb⟩
  have hn80 : nl ≤ 80 := by
    have := HFB.out
    simp [fewB] at this
    exact this.1
  by_cases hz : nl = 0
  · have hz1 : (nl == 0) = true := by simp [hz]
    have hz2 : ((nl : Int) == 0) = true := by simp [hz]
    clear hz
    go_wp2_with fail
    refine (awake_any _).mono ?_
    rintro e w1 ⟨rfl, hb⟩
    go_wp2_with fail
    go_ret
    exact ⟨rfl, hb⟩
  have hz1 : (nl == 0) = false := by simp [hz]
  have hz2 : ((nl : Int) == 0) = false := by simp [hz]
  have hpos : 0 < nl := by omega
  clear hz
  go_wp2_with fail
  obtain ⟨k, hk⟩ : ∃ k : Nat, by_ % (nl : Int) = (k : Int) := ⟨(by_ % (nl : Int)).toNat, by have := Int.emod_nonneg by_ (show (nl : Int) ≠ 0 by omega); omega⟩
  have hkn : k < nl := by
    have := Int.emod_lt_of_pos by_ (show (0 : Int) < (nl : Int) by omega)
    omega
  rw [hk]
  clear hk
  have hll : 0 < l.length := by rw [HLl.out]; exact hpos
  obtain ⟨lb, loff, hA, hlb, -⟩ := HL.out 0 l[0] (List.getElem?_eq_getElem hll)
  subst hA
  obtain ⟨m, hm⟩ : ∃ m, m = nl - k := ⟨_, rfl⟩
  obtain ⟨cm, hcm2⟩ : ∃ cm, cm = cL - k := ⟨_, rfl⟩
  have hs1 : ∀ w' : World, (Instr.slice 26 (.slice (some ⟨lb, loff, none⟩) nl cL) (some (.int .i64 (k : Int))) none none).run Try.prog w' = .ok (.slice (some ⟨lb, loff + k * 8, none⟩) m cm) w' := fun w' => by
    rw [run_slice_from (P := Try.prog) w' 26 36 c0 Try.underlying26 hc0 (some ⟨lb, loff, none⟩) nl cL k (by omega), if_neg (by omega), hcs, ← hm, ← hcm2]
    simp [Addr.add_lit]
  have hs2 : ∀ w' : World, (Instr.slice 26 (.slice (some ⟨lb, loff, none⟩) nl cL) none (some (.int .i64 (k : Int))) none).run Try.prog w' = .ok (.slice (some ⟨lb, loff, none⟩) k cL) w' := fun w' =>
    run_slice_upto (P := Try.prog) w' 26 36 c0 Try.underlying26 hc0 (some ⟨lb, loff, none⟩) nl cL k (by omega)
  have hdl : (l.drop k).length = m := by rw [List.length_drop, HLl.out]; exact hm.symm
  have htl : (l.take k).length = k := by rw [List.length_take, HLl.out]; omega
  have hmk : m + k = nl := by omega
  have hdc : ((l.drop k).flatMap conCells).length = m * 8 := by rw [con_len, hdl]
  have htc : ((l.take k).flatMap conCells).length = k * 8 := by rw [con_len, htl]
  have hm80 : m ≤ 80 := by omega
  have HDC := Lib.hid hdc
  have HTC := Lib.hid htc
  have HDL := Lib.hid hdl
  have HTL := Lib.hid htl
  have HMK := Lib.hid hmk
  clear hdc htc hdl htl hmk hm hcm2 hll
  go_region_held3 (fun _ => True) ((trivial)) (first | (refine step_append_Q (o := ⟨some 35, _, _, _, _, _⟩) _ (by rfl) (.tmp 31) (.tmp 34) _ (by rfl) w.heap.size 36 c0 _ 8 72 Try.underlying26 hc0 hcz hcs hcb (by rfl) (by omega) (.slice (some ⟨w.heap.size, 0, none⟩) 0 0) 0 [] (by rfl) (by have hO0 : OwnS (w.alloc (.cells #[] 36)) w.heap.size 36 8 (.slice (some ⟨w.heap.size, 0, none⟩) 0 0) 0 [] := OwnS.block (n := 0) (cur := #[]) (Nat.le_refl _) (heap_alloc_new w _) (by simp [maxLen]) rfl; (repeat (first | assumption | refine OwnS.drew ?_ | refine OwnS.drewN ?_ _ | refine OwnS.alloc ?_ _ | refine OwnS.setCell ?_ (by assumption) _))) (some ⟨lb, loff + k * 8, none⟩) m cm ((l.drop k).flatMap conCells) (by rfl) HDC.out (RowAt.newsN ((HL.out.below (B' := w.heap.size) (by (repeat (first | exact Below.refl _ _ | assumption | refine Below.trans ?_ (Below.mono (by assumption) (by first | omega | (simp; done) | (simp; omega))) | refine Below.alloc ?_ (by first | omega | (simp; done) | (simp; omega)) _ | refine Below.setCell ?_ (by first | omega | (simp; done) | (simp; omega)) _ | refine Below.drew ?_ | refine below_drewN ?_ _))) (Nat.le_refl _)).drop k) (fun c _ => rfl)) (con_one _) (by simp only [maxLen]; omega) (by omega) (by simp) ?_; intro v1 w1 hown1 hgrow1 hat1; have hB1 : Below w.heap.size w w1 := (Below.grown (B := w.heap.size) (by (repeat (first | exact Below.refl _ _ | assumption | refine Below.trans ?_ (Below.mono (by assumption) (by first | omega | (simp; done) | (simp; omega))) | refine Below.alloc ?_ (by first | omega | (simp; done) | (simp; omega)) _ | refine Below.setCell ?_ (by first | omega | (simp; done) | (simp; omega)) _ | refine Below.drew ?_ | refine below_drewN ?_ _))) hgrow1 (by simp) (by intro g hg; simp [Value.ownBlock] at hg; omega)); have hz1w := hgrow1.size; simp at hz1w; simp only [Nat.zero_add, List.nil_append] at hown1) | (refine step_append_Q (o := ⟨some 39, _, _, _, _, _⟩) _ (by rfl) (.tmp 35) (.tmp 38) _ (by rfl) w.heap.size 36 c0 _ 8 72 Try.underlying26 hc0 hcz hcs hcb (by rfl) (by omega) v1 m ((l.drop k).flatMap conCells) (by rfl) hown1 (some ⟨lb, loff, none⟩) k cL ((l.take k).flatMap conCells) (by rfl) HTC.out (RowAt.newsN ((HL.out.below (B' := w.heap.size) hB1 (Nat.le_refl _)).take k) (fun c _ => rfl)) (con_one _) (by simp only [maxLen]; omega) (by omega) (by omega) ?_; intro v2 w2 hown2 hgrow2 hat2; have hB2 : Below w.heap.size w w2 := hB1.grown hgrow2 (by omega) (fun g hg => (hown1.lt g hg).1)))
  clear hs1 hs2 hgrow1 hat1 hown1 hgrow2 hat2
  have hlen : (l.drop k ++ l.take k).length = nl := by rw [List.length_append, HDL.out, HTL.out]; exact HMK.out
  have hperm : ∀ c, c ∈ l ↔ c ∈ l.drop k ++ l.take k := fun c => by
    rw [List.mem_append]
    constructor
    · intro hc
      rw [← List.take_append_drop k l, List.mem_append] at hc
      exact hc.symm
    · rintro (hc | hc)
      · exact List.mem_of_mem_drop hc
      · exact List.mem_of_mem_take hc
  rw [HMK.out, ← List.flatMap_append] at hown2
  obtain ⟨A8, c8, hv8, -, -⟩ := hown2.shape
  subst hv8
  have hrow8 := hown2.rowAt (l := l.drop k ++ l.take k) rfl rfl (fun c _ => rfl) hlen
  have hS1 := fun (w' : World) (h : RowAt 8 conCells w' w'.heap.size (some ⟨lb, loff, none⟩) l) => Solve_all vert _ nl cL l w' h HLl.out (by omega)
  have hS2 := fun (w' : World) (h : RowAt 8 conCells w' w'.heap.size A8 (l.drop k ++ l.take k)) => Solve_all vert _ nl c8 _ w' h hlen (by omega)
  obtain ⟨he, ht, hx⟩ := order_law hperm vert
  have hln := solve_lens vert l
  rw [← he] at hS2
  generalize solveErr vert l = er at hS1 hS2
  generalize solveTys vert l = T1 at *
  generalize solveTys vert (l.drop k ++ l.take k) = T2 at *
  generalize solveChs vert l = X1 at *
  generalize solveChs vert (l.drop k ++ l.take k) = X2 at *
  have hxl : X2.length = X1.length := by
    have := congrArg List.length hx
    simpa using this.symm
  have htl : T2.length = T1.length := by
    unfold tysEq at ht
    rw [Bool.and_eq_true] at ht
    exact (of_decide_eq_true ht.1).symm
  have HS1 := Lib.hid hS1
  have HS2 := Lib.hid hS2
  have HT := Lib.hid ht
  have HX := Lib.hid hx
  have HR8 := Lib.hid hrow8
  have HXL := Lib.hid hxl
  have HTLn := Lib.hid htl
  obtain ⟨ht1, hx1⟩ := hln
  clear hS1 hS2 ht hx he hrow8 hown2 hlen hperm hxl htl HDC HTC HDL HTL HMK
  go_wp2_with fail
  refine (HS1.out w2 ((HL.out.below hB2 (Nat.le_refl _)).mono hB2.size)).mono ?_
  rintro e w3 ⟨A1, c1, A2, c2, rfl, hT1, hC1, hb3⟩
  have HT1 := Lib.hid hT1
  have HC1 := Lib.hid hC1
  clear hT1 hC1
  go_wp2_with fail
  refine (HS2.out w3 (HR8.out.later hb3)).mono ?_
  rintro e w4 ⟨A3, c3, A4, c4, rfl, hT2, hC2, hb4⟩
  rw [HXL.out, HTLn.out]
  have HT1b := Lib.hid (HT1.out.later hb4)
  have HC1b := Lib.hid (HC1.out.later hb4)
  have HT2 := Lib.hid hT2
  have HC2 := Lib.hid hC2
  have hB4 : Below w.heap.size w w4 := (hB2.trans (hb3.mono hB2.size)).trans (hb4.mono (Nat.le_trans hB2.size hb3.size))
  clear hT2 hC2 hb3 hb4 HT1 HC1
  obtain ⟨NT, hNT⟩ : ∃ NT, T1.length = NT := ⟨_, rfl⟩
  obtain ⟨NX, hNX⟩ : ∃ NX, X1.length = NX := ⟨_, rfl⟩
  rw [hNT, hNX]
  rw [hNT] at ht1
  rw [hNX] at hx1
  have HNT := Lib.hid hNT
  have HNX := Lib.hid hNX
  clear hNT hNX
  go_wp2_with fail
  refine (Equal_any A1 A3 NT NT c1 c3 T1 T2 w4 HT1b.out HT2.out HNT.out (HTLn.out.trans HNT.out) (by omega)).mono ?_
  rintro e w5 ⟨rfl, hb5⟩
  rw [HT.out]
  have HC1c := Lib.hid (HC1b.out.later hb5)
  have HC2c := Lib.hid (HC2.out.later hb5)
  have hB5 : Below w.heap.size w w5 := hB4.trans (hb5.mono hB4.size)
  clear HC1b HC2 HT1b HT2 hb5
  go_wp2_with fail
  go_loopg [72] NX (fun gk s wr => ∃ q : Nat, q + gk = NX ∧ s = .int .i64 q ∧ Below w5.heap.size w5 wr)
  case atStart => exact ⟨0, by omega, rfl, Below.refl _ _⟩
  case round =>
    obtain ⟨q, hq, rfl, hBq⟩ := hrel
    have hq' : q ≤ NX := by omega
    have HQ := Lib.hid hq
    clear hq
    by_cases hlt : q < NX
    · have hq1 : q < X1.length := by rw [HNX.out]; exact hlt
      have hq2 : q < X2.length := by rw [HXL.out, HNX.out]; exact hlt
      obtain ⟨b1, o1, Ai1, ci1, hA1, hbb1, hcc1, -⟩ := (HC1c.out.below hBq (Nat.le_refl _)) q _ (List.getElem?_eq_getElem hq1)
      obtain ⟨b2, o2, Ai2, ci2, hA2, hbb2, hcc2, -⟩ := (HC2c.out.below hBq (Nat.le_refl _)) q _ (List.getElem?_eq_getElem hq2)
      have hle : X2[q].length = X1[q].length := by
        have := congrArg (fun l => l[q]?) HX.out
        simp only [List.getElem?_map, List.getElem?_eq_getElem hq1, List.getElem?_eq_getElem hq2, Option.map_some] at this
        injection this with this
        exact this.symm
      rw [hle] at hcc2
      clear hle
      generalize X1[q].length = nn at hcc1 hcc2
      subst hA1
      subst hA2
      have hqi : (q : Int) < (NX : Int) := by omega
      go_wp2_with fail
      go_quiet (fail)
      go_wp2_with fail
      go_roundg (gk - 1)
      case measure => have := HQ.out; omega
      case rel => exact ⟨q + 1, by have := HQ.out; omega, by go_num, by (repeat (first | exact Below.refl _ _ | assumption | refine Below.trans ?_ (Below.mono (by assumption) (by first | omega | (simp; done) | (simp; omega))) | refine Below.alloc ?_ (by first | omega | (simp; done) | (simp; omega)) _ | refine Below.setCell ?_ (by first | omega | (simp; done) | (simp; omega)) _ | refine Below.drew ?_ | refine below_drewN ?_ _))⟩
    · go_wp2_with fail
      refine (awake_any _).mono ?_
      rintro e w6 ⟨rfl, hb6⟩
      go_wp2_with fail
      go_ret
      exact ⟨rfl, (hB5.trans (hBq.mono hB5.size)).trans (hb6.mono (Nat.le_trans hB5.size hBq.size))⟩

end Go.Proofs.Ytpdimehoepfgaaa
