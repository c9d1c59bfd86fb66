/- The reference's valid and Fits. -/
import Derived.Test.YtpdimehoepfgaaaLaw
namespace Go.Proofs.Ytpdimehoepfgaaa
open Go.RowKit

theorem err_bad {vert : Int} {l : List Con} {k : Nat} {c : Con} (h0 : 0 ≤ vert) (h1 : vert ≤ 4096) (hc : l[k]? = some c) (hbad : okCon vert.toNat c = false) : solveErr vert l = 1 := by
  unfold solveErr
  rw [if_neg (by omega), if_neg]
  intro h
  have := List.all_eq_true.1 h c (List.mem_of_getElem? hc)
  rw [hbad] at this
  cases this

theorem err_ok {vert : Int} {l : List Con} (h0 : 0 ≤ vert) (h1 : vert ≤ 4096) (h : ∀ (i : Nat) (c : Con), l[i]? = some c → okCon vert.toNat c = true) : solveErr vert l = 0 := by
  unfold solveErr
  rw [if_neg (by omega), if_pos]
  rw [List.all_eq_true]
  intro c hc
  obtain ⟨i, hi, rfl⟩ := List.getElem_of_mem hc
  exact h i _ (List.getElem?_eq_getElem hi)

theorem ret_int64 {a b : Int} (h : a = b) : Ending.returned (.int .i64 a) = .returned (.int .i64 b) := by rw [h]

set_option maxHeartbeats 2000000 in
theorem valid_any (vert : Int) (AL : Option Addr) (nl cL : Nat) (l : List Con) (w : World) (hL : RowAt 8 conCells w w.heap.size AL l) (hl : l.length = nl) (hnl : nl ≤ 1000000) :
    Calls Try.prog 31 #[.int .i64 vert, .slice AL nl cL] w fun e w' => e = .returned (.int .i64 (solveErr vert l)) ∧ Below w.heap.size w w' := by
  by_cases h0 : vert < 0
  · have he : solveErr vert l = 2 := by unfold solveErr; rw [if_pos (.inl h0)]
    rw [he]
    clear he
    go_enter Try.func31, Try.ntmps31
    go_wp2_with fail
    go_ret
    exact ⟨rfl, by (repeat (first | exact Below.refl _ _ | assumption | refine Below.trans ?_ (Below.mono (by assumption) (by first | omega | (simp; done) | (simp; omega))) | refine Below.alloc ?_ (by first | omega | (simp; done) | (simp; omega)) _ | refine Below.setCell ?_ (by first | omega | (simp; done) | (simp; omega)) _ | refine Below.drew ?_ | refine below_drewN ?_ _))⟩
  by_cases h1 : 4096 < vert
  · have he : solveErr vert l = 2 := by unfold solveErr; rw [if_pos (.inr h1)]
    rw [he]
    clear he
    go_enter Try.func31, Try.ntmps31
    go_wp2_with fail
    go_ret
    exact ⟨rfl, by (repeat (first | exact Below.refl _ _ | assumption | refine Below.trans ?_ (Below.mono (by assumption) (by first | omega | (simp; done) | (simp; omega))) | refine Below.alloc ?_ (by first | omega | (simp; done) | (simp; omega)) _ | refine Below.setCell ?_ (by first | omega | (simp; done) | (simp; omega)) _ | refine Below.drew ?_ | refine below_drewN ?_ _))⟩
  have hbadl : ∀ (k : Nat) (c : Con), l[k]? = some c → okCon vert.toNat c = false → solveErr vert l = 1 := fun k c hc hb => err_bad (by omega) (by omega) hc hb
  have hokl : (∀ (i : Nat) (c : Con), l[i]? = some c → okCon vert.toNat c = true) → solveErr vert l = 0 := fun h => err_ok (by omega) (by omega) h
  obtain ⟨n, rfl⟩ : ∃ n : Nat, vert = (n : Int) := ⟨vert.toNat, by omega⟩
  rw [Int.toNat_natCast] at hbadl hokl
  have hn : n ≤ 4096 := by omega
  have HBAD := Lib.hid hbadl
  have HOKL := Lib.hid hokl
  have HL := Lib.hid hL
  have HLl := Lib.hid hl
  have hd1 : decide ((n : Int) < 0) = false := by simp
  have hd2 : decide ((4096 : Int) < (n : Int)) = false := by simp; omega
  clear hbadl hokl hL hl h0 h1
  generalize solveErr (n : Int) l = er at *
  go_enter Try.func31, Try.ntmps31
  go_wp2_with fail
  clear hd1 hd2
  go_loopg [5] nl (fun gk s wr => ∃ k : Nat, k + gk = nl ∧ s = .int .i64 k ∧ Below w.heap.size w wr ∧ ∀ i c, i < k → l[i]? = some c → okCon n c = true)
  case atStart => exact ⟨0, by omega, rfl, Below.refl _ _, fun i c hi => by omega⟩
  case round =>
    obtain ⟨k, hk, rfl, hB, hok⟩ := hrel
    have hk' : k ≤ nl := by omega
    have HK := Lib.hid hk
    have HOK := Lib.hid hok
    have hBs := hB.size
    clear hk hok
    by_cases hlt : k < nl
    · have hkl : k < l.length := by rw [HLl.out]; exact hlt
      have hlk : l[k]? = some l[k] := List.getElem?_eq_getElem hkl
      obtain ⟨lb, loff, hA, hlb, hlc⟩ := (HL.out.below hB (Nat.le_refl _)) k _ hlk
      subst hA
      have hc0 : wr.cell? ⟨lb, loff + k * 8, none⟩ = some (.int .i64 l[k].kind) := hlc 0 _ rfl
      have hc1 : wr.cell? ⟨lb, loff + k * 8 + 1, none⟩ = some (.int .i64 l[k].a) := hlc 1 _ rfl
      have hc2 : wr.cell? ⟨lb, loff + k * 8 + 2, none⟩ = some (.int .i64 l[k].b) := hlc 2 _ rfl
      have hc3 : wr.cell? ⟨lb, loff + k * 8 + 3, none⟩ = some (.int .i64 l[k].tk) := hlc 3 _ rfl
      have hc4 : wr.cell? ⟨lb, loff + k * 8 + 4, none⟩ = some (.int .i64 l[k].tl) := hlc 4 _ rfl
      have hc5 : wr.cell? ⟨lb, loff + k * 8 + 5, none⟩ = some (.string l[k].tr) := hlc 5 _ rfl
      have hc6 : wr.cell? ⟨lb, loff + k * 8 + 6, none⟩ = some (.int .i64 l[k].at_) := hlc 6 _ rfl
      have hc7 : wr.cell? ⟨lb, loff + k * 8 + 7, none⟩ = some (.int .i64 l[k].end_) := hlc 7 _ rfl
      have HLK := Lib.hid hlk
      clear hlc hlk
      generalize l[k] = c at *
      have hbad : okCon n c = false → er = 1 := fun h => HBAD.out k c HLK.out h
      have HB1 := Lib.hid hbad
      clear hbad
      have hcase : c.a < 0 ∨ (0 ≤ c.a ∧ (n : Int) ≤ c.a) ∨ (0 ≤ c.a ∧ c.a < (n : Int)) := by omega
      rcases hcase with ha | ⟨ha0, ha⟩ | ⟨ha0, ha⟩
      · have her : er = 1 := HB1.out (by simp [okCon, inB]; omega)
        subst her
        go_wp2_with fail
        go_ret
        exact ⟨rfl, by (repeat (first | exact Below.refl _ _ | assumption | refine Below.trans ?_ (Below.mono (by assumption) (by first | omega | (simp; done) | (simp; omega))) | refine Below.alloc ?_ (by first | omega | (simp; done) | (simp; omega)) _ | refine Below.setCell ?_ (by first | omega | (simp; done) | (simp; omega)) _ | refine Below.drew ?_ | refine below_drewN ?_ _))⟩
      · have her : er = 1 := HB1.out (by simp [okCon, inB]; omega)
        subst her
        have hd0 : decide (c.a < 0) = false := by simp; omega
        go_wp2_with fail
        go_ret
        exact ⟨rfl, by (repeat (first | exact Below.refl _ _ | assumption | refine Below.trans ?_ (Below.mono (by assumption) (by first | omega | (simp; done) | (simp; omega))) | refine Below.alloc ?_ (by first | omega | (simp; done) | (simp; omega)) _ | refine Below.setCell ?_ (by first | omega | (simp; done) | (simp; omega)) _ | refine Below.drew ?_ | refine below_drewN ?_ _))⟩
      have hina : inB n c.a = true := by simp [inB]; omega
      have HINA := Lib.hid hina
      clear hina
      by_cases hk1 : c.kind = 1
      · have hb1 : (c.kind == 1) = true := by simp [hk1]
        have hb2 : (c.kind != 1) = false := by simp [hk1]
        have hb3 : (c.kind != 0) = true := by simp [hk1]
        have hb4 : (c.kind == 0) = false := by simp [hk1]
        have HK1 := Lib.hid hk1
        clear hk1
        have hcase : c.b < 0 ∨ (0 ≤ c.b ∧ (n : Int) ≤ c.b) ∨ (0 ≤ c.b ∧ c.b < (n : Int)) := by omega
        rcases hcase with hb | ⟨hb0, hb⟩ | ⟨hb0, hb⟩
        · have her : er = 1 := HB1.out (by simp [okCon, inB, HK1.out]; omega)
          subst her
          go_wp2_with fail
          go_ret
          exact ⟨rfl, by (repeat (first | exact Below.refl _ _ | assumption | refine Below.trans ?_ (Below.mono (by assumption) (by first | omega | (simp; done) | (simp; omega))) | refine Below.alloc ?_ (by first | omega | (simp; done) | (simp; omega)) _ | refine Below.setCell ?_ (by first | omega | (simp; done) | (simp; omega)) _ | refine Below.drew ?_ | refine below_drewN ?_ _))⟩
        · have her : er = 1 := HB1.out (by simp [okCon, inB, HK1.out]; omega)
          subst her
          go_wp2_with fail
          go_ret
          exact ⟨rfl, by (repeat (first | exact Below.refl _ _ | assumption | refine Below.trans ?_ (Below.mono (by assumption) (by first | omega | (simp; done) | (simp; omega))) | refine Below.alloc ?_ (by first | omega | (simp; done) | (simp; omega)) _ | refine Below.setCell ?_ (by first | omega | (simp; done) | (simp; omega)) _ | refine Below.drew ?_ | refine below_drewN ?_ _))⟩
        · go_wp2_with fail
          go_roundg (gk - 1)
          case measure => have := HK.out; omega
          case rel =>
            refine ⟨k + 1, by have := HK.out; omega, by go_num, by (repeat (first | exact Below.refl _ _ | assumption | refine Below.trans ?_ (Below.mono (by assumption) (by first | omega | (simp; done) | (simp; omega))) | refine Below.alloc ?_ (by first | omega | (simp; done) | (simp; omega)) _ | refine Below.setCell ?_ (by first | omega | (simp; done) | (simp; omega)) _ | refine Below.drew ?_ | refine below_drewN ?_ _)), fun i c' hi hc' => ?_⟩
            by_cases hik : i = k
            · subst hik
              rw [HLK.out] at hc'
              cases hc'
              simp [okCon, HK1.out, inB]
              omega
            · exact HOK.out i c' (by omega) hc'
      · have hb1 : (c.kind == 1) = false := by simp [hk1]
        have hb2 : (c.kind != 1) = true := by simp [hk1]
        by_cases hk0 : c.kind = 0
        · have hb3 : (c.kind != 0) = false := by simp [hk0]
          have hb4 : (c.kind == 0) = true := by simp [hk0]
          have HK0 := Lib.hid hk0
          clear hk0 hk1
          go_wp2_with fail
          refine (IsMark_any _ _ _ _).mono ?_
          rintro e w2 ⟨rfl, hb2'⟩
          have hb2s := hb2'.size
          simp at hb2s
          obtain ⟨im, him⟩ : ∃ im, isMarkB c.tk c.tl c.tr = im := ⟨_, rfl⟩
          rw [him]
          have HIM := Lib.hid him
          clear him
          cases im
          · have her : er = 1 := HB1.out (by simp [okCon, HK0.out, HIM.out])
            subst her
            go_wp2_with fail
            go_ret
            exact ⟨rfl, by (repeat (first | exact Below.refl _ _ | assumption | refine Below.trans ?_ (Below.mono (by assumption) (by first | omega | (simp; done) | (simp; omega))) | refine Below.alloc ?_ (by first | omega | (simp; done) | (simp; omega)) _ | refine Below.setCell ?_ (by first | omega | (simp; done) | (simp; omega)) _ | refine Below.drew ?_ | refine below_drewN ?_ _))⟩
          · go_wp2_with fail
            go_roundg (gk - 1)
            case measure => have := HK.out; omega
            case rel =>
              refine ⟨k + 1, by have := HK.out; omega, by go_num, by (repeat (first | exact Below.refl _ _ | assumption | refine Below.trans ?_ (Below.mono (by assumption) (by first | omega | (simp; done) | (simp; omega))) | refine Below.alloc ?_ (by first | omega | (simp; done) | (simp; omega)) _ | refine Below.setCell ?_ (by first | omega | (simp; done) | (simp; omega)) _ | refine Below.drew ?_ | refine below_drewN ?_ _)), fun i c' hi hc' => ?_⟩
              by_cases hik : i = k
              · subst hik
                rw [HLK.out] at hc'
                cases hc'
                simp [okCon, HINA.out, HK0.out, HIM.out]
              · exact HOK.out i c' (by omega) hc'
        · have hb3 : (c.kind != 0) = true := by simp [hk0]
          have her : er = 1 := HB1.out (by simp [okCon, hk0, hk1])
          subst her
          clear hk0 hk1
          go_wp2_with fail
          go_ret
          exact ⟨rfl, by (repeat (first | exact Below.refl _ _ | assumption | refine Below.trans ?_ (Below.mono (by assumption) (by first | omega | (simp; done) | (simp; omega))) | refine Below.alloc ?_ (by first | omega | (simp; done) | (simp; omega)) _ | refine Below.setCell ?_ (by first | omega | (simp; done) | (simp; omega)) _ | refine Below.drew ?_ | refine below_drewN ?_ _))⟩
    · have her : er = 0 := HOKL.out (fun i c hc => HOK.out i c (by have := (List.getElem?_eq_some_iff.1 hc).1; rw [HLl.out] at this; omega) hc)
      subst her
      go_wp2_with fail
      go_ret
      exact ⟨rfl, by (repeat (first | exact Below.refl _ _ | assumption | refine Below.trans ?_ (Below.mono (by assumption) (by first | omega | (simp; done) | (simp; omega))) | refine Below.alloc ?_ (by first | omega | (simp; done) | (simp; omega)) _ | refine Below.setCell ?_ (by first | omega | (simp; done) | (simp; omega)) _ | refine Below.drew ?_ | refine below_drewN ?_ _))⟩

theorem Fits_any (vert : Int) (AL : Option Addr) (nl cL : Nat) (l : List Con) (w : World) (hL : RowAt 8 conCells w w.heap.size AL l) (hl : l.length = nl) (hnl : nl ≤ 1000000) :
    Calls Try.prog 13 #[.int .i64 vert, .slice AL nl cL] w fun e w' => e = .returned (.bool (solveErr vert l == 0)) ∧ Below w.heap.size w w' := by
  have hv := valid_any vert AL nl cL l w hL hl hnl
  generalize solveErr vert l = er at *
  have HV := Lib.hid hv
  clear hv hL
  go_enter Try.func13, Try.ntmps13
  go_wp2_with fail
  refine HV.out.mono ?_
  rintro e w1 ⟨rfl, hb⟩
  go_wp2_with fail
  go_ret
  exact ⟨rfl, hb⟩

end Go.Proofs.Ytpdimehoepfgaaa
