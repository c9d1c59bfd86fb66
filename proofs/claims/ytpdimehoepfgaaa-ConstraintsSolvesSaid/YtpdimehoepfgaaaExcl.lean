import Derived.Test.YtpdimehoepfgaaaBasics
namespace Go.Proofs.Ytpdimehoepfgaaa
open Go.RowKit

def exclB (k1 l1 : Int) (r1 : ByteArray) (k2 l2 : Int) (r2 : ByteArray) : Bool :=
  isMarkB k1 l1 r1 && isMarkB k2 l2 r2 && !eqTy k1 l1 r1 k2 l2 r2 && !coversB k1 k2 && !coversB k2 k1

theorem run_eqTy (k1 l1 : Int) (r1 : ByteArray) (k2 l2 : Int) (r2 : ByteArray) (w : World) :
    (binOp .eql 23 (.agg #[.int .i64 k1, .int .i64 l1, .string r1]) (.agg #[.int .i64 k2, .int .i64 l2, .string r2])).run Try.prog w = .ok (.bool (eqTy k1 l1 r1 k2 l2 r2)) w := by
  by_cases h1 : k1 = k2 <;> by_cases h2 : l1 = l2 <;> by_cases h3 : r1.toList = r2.toList <;> (simp only [eqTy]; go_simp)

theorem run_neTy (k1 l1 : Int) (r1 : ByteArray) (k2 l2 : Int) (r2 : ByteArray) (w : World) :
    (binOp .neq 23 (.agg #[.int .i64 k1, .int .i64 l1, .string r1]) (.agg #[.int .i64 k2, .int .i64 l2, .string r2])).run Try.prog w = .ok (.bool (!eqTy k1 l1 r1 k2 l2 r2)) w := by
  by_cases h1 : k1 = k2 <;> by_cases h2 : l1 = l2 <;> by_cases h3 : r1.toList = r2.toList <;> (simp only [eqTy]; go_simp)

set_option maxHeartbeats 1000000 in
theorem Exclude_any (k1 l1 : Int) (r1 : ByteArray) (k2 l2 : Int) (r2 : ByteArray) (w : World) :
    Calls Try.prog 8 #[.agg #[.int .i64 k1, .int .i64 l1, .string r1], .agg #[.int .i64 k2, .int .i64 l2, .string r2]] w fun e w' => e = .returned (.bool (exclB k1 l1 r1 k2 l2 r2)) ∧ Below w.heap.size w w' := by
  have hq := run_neTy k1 l1 r1 k2 l2 r2
  go_enter Try.func8, Try.ntmps8
  go_wp2_with fail
  refine (isMark_any _ _ _ _).mono ?_
  rintro e w1 ⟨rfl, hb1⟩
  obtain ⟨hc1, hf1⟩ := bcell hb1
  have hz1 := hb1.size
  try simp at hz1
  cases h1 : isMarkB k1 l1 r1
  · go_wp2_with fail
    go_ret
    exact ⟨ret_bool (by simp [exclB, h1]), by (repeat (first | exact Below.refl _ _ | assumption | refine Below.trans ?_ (Below.mono (by assumption) (by first | omega | (simp; done) | (simp; omega))) | refine Below.alloc ?_ (by first | omega | (simp; done) | (simp; omega)) _ | refine Below.setCell ?_ (by first | omega | (simp; done) | (simp; omega)) _ | refine Below.drew ?_ | refine below_drewN ?_ _))⟩
  go_wp2_with fail
  refine (isMark_any _ _ _ _).mono ?_
  rintro e w2 ⟨rfl, hbn⟩
  have hb2 := hb1.trans (hbn.mono hb1.size)
  clear hbn
  obtain ⟨hc2, hf2⟩ := bcell hb2
  have hz2 := hb2.size
  try simp at hz2
  cases h2 : isMarkB k2 l2 r2
  · go_wp2_with fail
    go_ret
    exact ⟨ret_bool (by simp [exclB, h2]), by (repeat (first | exact Below.refl _ _ | assumption | refine Below.trans ?_ (Below.mono (by assumption) (by first | omega | (simp; done) | (simp; omega))) | refine Below.alloc ?_ (by first | omega | (simp; done) | (simp; omega)) _ | refine Below.setCell ?_ (by first | omega | (simp; done) | (simp; omega)) _ | refine Below.drew ?_ | refine below_drewN ?_ _))⟩
  cases h3 : eqTy k1 l1 r1 k2 l2 r2
  · go_wp2_with fail
    refine (covers_any _ _ _ _ _ _ _).mono ?_
    rintro e w3 ⟨rfl, hbn⟩
    have hb3 := hb2.trans (hbn.mono hb2.size)
    clear hbn
    obtain ⟨hc3, hf3⟩ := bcell hb3
    have hz3 := hb3.size
    try simp at hz3
    cases h4 : coversB k1 k2
    · go_wp2_with fail
      refine (covers_any _ _ _ _ _ _ _).mono ?_
      rintro e w4 ⟨rfl, hbn⟩
      have hb4 := hb3.trans (hbn.mono hb3.size)
      clear hbn
      obtain ⟨hc4, hf4⟩ := bcell hb4
      have hz4 := hb4.size
      try simp at hz4
      go_wp2_with fail
      go_ret
      exact ⟨ret_bool (by simp [exclB, h1, h2, h3, h4]), by (repeat (first | exact Below.refl _ _ | assumption | refine Below.trans ?_ (Below.mono (by assumption) (by first | omega | (simp; done) | (simp; omega))) | refine Below.alloc ?_ (by first | omega | (simp; done) | (simp; omega)) _ | refine Below.setCell ?_ (by first | omega | (simp; done) | (simp; omega)) _ | refine Below.drew ?_ | refine below_drewN ?_ _))⟩
    · go_wp2_with fail
      go_ret
      exact ⟨ret_bool (by simp [exclB, h4]), by (repeat (first | exact Below.refl _ _ | assumption | refine Below.trans ?_ (Below.mono (by assumption) (by first | omega | (simp; done) | (simp; omega))) | refine Below.alloc ?_ (by first | omega | (simp; done) | (simp; omega)) _ | refine Below.setCell ?_ (by first | omega | (simp; done) | (simp; omega)) _ | refine Below.drew ?_ | refine below_drewN ?_ _))⟩
  · go_wp2_with fail
    go_ret
    exact ⟨ret_bool (by simp [exclB, h3]), by (repeat (first | exact Below.refl _ _ | assumption | refine Below.trans ?_ (Below.mono (by assumption) (by first | omega | (simp; done) | (simp; omega))) | refine Below.alloc ?_ (by first | omega | (simp; done) | (simp; omega)) _ | refine Below.setCell ?_ (by first | omega | (simp; done) | (simp; omega)) _ | refine Below.drew ?_ | refine below_drewN ?_ _))⟩

theorem eqTy_comm (k1 l1 : Int) (r1 : ByteArray) (k2 l2 : Int) (r2 : ByteArray) : eqTy k1 l1 r1 k2 l2 r2 = eqTy k2 l2 r2 k1 l1 r1 := by
  unfold eqTy
  rw [Bool.eq_iff_iff]
  simp
  constructor <;> (rintro ⟨⟨a, b⟩, c⟩; exact ⟨⟨a.symm, b.symm⟩, c.symm⟩)

theorem exclB_fits (k1 l1 : Int) (r1 : ByteArray) (k2 l2 : Int) (r2 : ByteArray) : exclB k1 l1 r1 k2 l2 r2 = (isMarkB k1 l1 r1 && isMarkB k2 l2 r2 && !fitsB k1 l1 r1 k2 l2 r2 && !fitsB k2 l2 r2 k1 l1 r1) := by
  unfold exclB fitsB
  rw [eqTy_comm k2]
  cases isMarkB k1 l1 r1 <;> cases isMarkB k2 l2 r2 <;> cases eqTy k1 l1 r1 k2 l2 r2 <;> cases coversB k1 k2 <;> cases coversB k2 k1 <;> rfl

theorem exclB_comm (k1 l1 : Int) (r1 : ByteArray) (k2 l2 : Int) (r2 : ByteArray) : exclB k1 l1 r1 k2 l2 r2 = exclB k2 l2 r2 k1 l1 r1 := by
  unfold exclB
  rw [eqTy_comm k2]
  cases isMarkB k1 l1 r1 <;> cases isMarkB k2 l2 r2 <;> cases eqTy k1 l1 r1 k2 l2 r2 <;> cases coversB k1 k2 <;> cases coversB k2 k1 <;> rfl

theorem exclB_self (k1 l1 : Int) (r1 : ByteArray) : exclB k1 l1 r1 k1 l1 r1 = false := by
  simp [exclB, eqTy]

set_option maxHeartbeats 1000000 in
theorem ExcludeR_any (k1 l1 : Int) (r1 : ByteArray) (k2 l2 : Int) (r2 : ByteArray) (w : World) :
    Calls Try.prog 9 #[.agg #[.int .i64 k1, .int .i64 l1, .string r1], .agg #[.int .i64 k2, .int .i64 l2, .string r2]] w fun e w' => e = .returned (.bool (exclB k1 l1 r1 k2 l2 r2)) ∧ Below w.heap.size w w' := by
  go_enter Try.func9, Try.ntmps9
  go_wp2_with fail
  refine (IsMark_any _ _ _ _).mono ?_
  rintro e w1 ⟨rfl, hb1⟩
  obtain ⟨hc1, hf1⟩ := bcell hb1
  have hz1 := hb1.size
  try simp at hz1
  cases h1 : isMarkB k1 l1 r1
  · go_wp2_with fail
    go_ret
    exact ⟨ret_bool (by simp [exclB, h1]), by (repeat (first | exact Below.refl _ _ | assumption | refine Below.trans ?_ (Below.mono (by assumption) (by first | omega | (simp; done) | (simp; omega))) | refine Below.alloc ?_ (by first | omega | (simp; done) | (simp; omega)) _ | refine Below.setCell ?_ (by first | omega | (simp; done) | (simp; omega)) _ | refine Below.drew ?_ | refine below_drewN ?_ _))⟩
  go_wp2_with fail
  refine (IsMark_any _ _ _ _).mono ?_
  rintro e w2 ⟨rfl, hbn⟩
  have hb2 := hb1.trans (hbn.mono hb1.size)
  clear hbn
  obtain ⟨hc2, hf2⟩ := bcell hb2
  have hz2 := hb2.size
  try simp at hz2
  cases h2 : isMarkB k2 l2 r2
  · go_wp2_with fail
    go_ret
    exact ⟨ret_bool (by simp [exclB, h2]), by (repeat (first | exact Below.refl _ _ | assumption | refine Below.trans ?_ (Below.mono (by assumption) (by first | omega | (simp; done) | (simp; omega))) | refine Below.alloc ?_ (by first | omega | (simp; done) | (simp; omega)) _ | refine Below.setCell ?_ (by first | omega | (simp; done) | (simp; omega)) _ | refine Below.drew ?_ | refine below_drewN ?_ _))⟩
  go_wp2_with fail
  refine (fits_any _ _ _ _ _ _ _).mono ?_
  rintro e w3 ⟨rfl, hbn⟩
  have hb3 := hb2.trans (hbn.mono hb2.size)
  clear hbn
  obtain ⟨hc3, hf3⟩ := bcell hb3
  have hz3 := hb3.size
  try simp at hz3
  cases h3 : fitsB k1 l1 r1 k2 l2 r2
  · go_wp2_with fail
    refine (fits_any _ _ _ _ _ _ _).mono ?_
    rintro e w4 ⟨rfl, hbn⟩
    have hb4 := hb3.trans (hbn.mono hb3.size)
    clear hbn
    obtain ⟨hc4, hf4⟩ := bcell hb4
    have hz4 := hb4.size
    try simp at hz4
    cases h4 : fitsB k2 l2 r2 k1 l1 r1
    all_goals
      go_wp2_with fail
      go_ret
      exact ⟨ret_bool (by simp [exclB_fits, h1, h2, h3, h4]), by (repeat (first | exact Below.refl _ _ | assumption | refine Below.trans ?_ (Below.mono (by assumption) (by first | omega | (simp; done) | (simp; omega))) | refine Below.alloc ?_ (by first | omega | (simp; done) | (simp; omega)) _ | refine Below.setCell ?_ (by first | omega | (simp; done) | (simp; omega)) _ | refine Below.drew ?_ | refine below_drewN ?_ _))⟩
  · go_wp2_with fail
    go_ret
    exact ⟨ret_bool (by simp [exclB_fits, h3]), by (repeat (first | exact Below.refl _ _ | assumption | refine Below.trans ?_ (Below.mono (by assumption) (by first | omega | (simp; done) | (simp; omega))) | refine Below.alloc ?_ (by first | omega | (simp; done) | (simp; omega)) _ | refine Below.setCell ?_ (by first | omega | (simp; done) | (simp; omega)) _ | refine Below.drew ?_ | refine below_drewN ?_ _))⟩

end Go.Proofs.Ytpdimehoepfgaaa
