/- The decimal digits of a number, and the text of a type: program and reference. -/
import Derived.Test.YtpdimehoepfgaaaExcl
import Derived.Laws.IdiomStrings
namespace Go.Proofs.Ytpdimehoepfgaaa
open Go.RowKit

/-- The decimal digits of a number. -/
def decB (n : Nat) : ByteArray := if n < 10 then ⟨#[UInt8.ofNat (48 + n)]⟩ else decB (n / 10) ++ ⟨#[UInt8.ofNat (48 + n % 10)]⟩
termination_by n
decreasing_by omega

theorem decB_lt {n : Nat} (h : n < 10) : decB n = ⟨#[UInt8.ofNat (48 + n)]⟩ := by rw [decB, if_pos h]
theorem decB_ge {n : Nat} (h : ¬ n < 10) : decB n = decB (n / 10) ++ decB (n % 10) := by rw [decB, if_neg h, decB_lt (n := n % 10) (by omega)]

theorem size_app (a b : ByteArray) : (a ++ b).size = a.size + b.size := by simp [ByteArray.size_append]

theorem decB_size (n : Nat) : (decB n).size ≤ n / 10 + 1 := by
  induction n using Nat.strongRecOn with
  | ind n ih =>
    by_cases h : n < 10
    · rw [decB_lt h]; simp [ByteArray.size]
    · rw [decB_ge h, size_app, decB_lt (n := n % 10) (by omega)]
      have := ih (n / 10) (by omega)
      have e : (ByteArray.mk #[UInt8.ofNat (48 + n % 10)]).size = 1 := rfl
      rw [e]
      omega

theorem enc_digit {n : Nat} (h : n < 10) : Utf8.encode (48 + (n : Int)) = decB n := by
  rw [decB_lt h]
  match n, h with
  | 0, _ => rfl
  | 1, _ => rfl
  | 2, _ => rfl
  | 3, _ => rfl
  | 4, _ => rfl
  | 5, _ => rfl
  | 6, _ => rfl
  | 7, _ => rfl
  | 8, _ => rfl
  | 9, _ => rfl

set_option maxHeartbeats 1000000 in
theorem digits_any (n : Nat) : n < 9223372036854775808 → ∀ w : World,
    Calls Try.prog 42 #[.int .i64 (n : Int)] w fun e w' => e = .returned (.string (decB n)) ∧ Below w.heap.size w w' := by
  induction n using Nat.strongRecOn with
  | ind n ih =>
    intro hn w
    by_cases h : n < 10
    · have h1 : (n : Int) < 10 := by omega
      go_enter Try.func42, Try.ntmps42
      go_wp2_with fail
      go_ret
      rw [enc_digit h]
      exact ⟨rfl, by (repeat (first | exact Below.refl _ _ | assumption | refine Below.trans ?_ (Below.mono (by assumption) (by first | omega | (simp; done) | (simp; omega))) | refine Below.alloc ?_ (by first | omega | (simp; done) | (simp; omega)) _ | refine Below.setCell ?_ (by first | omega | (simp; done) | (simp; omega)) _ | refine Below.drew ?_ | refine below_drewN ?_ _))⟩
    · have h1 : ¬ (n : Int) < 10 := by omega
      have e1 : (n : Int) / 10 = ((n / 10 : Nat) : Int) := by omega
      have e2 : (n : Int) % 10 = ((n % 10 : Nat) : Int) := by omega
      have c1 := ih (n / 10) (by omega) (by omega)
      have c2 := ih (n % 10) (by omega) (by omega)
      have s1 := decB_size (n / 10)
      have s2 := decB_size (n % 10)
      have hres := decB_ge h
      have HRES := Lib.hid hres
      have C1 := Lib.hid c1
      have C2 := Lib.hid c2
      have E1 := Lib.hid e1
      have E2 := Lib.hid e2
      clear c1 c2 ih hres e1 e2
      go_enter Try.func42, Try.ntmps42
      go_wp2_with fail
      rw [E1.out]
      refine (C1.out _).mono ?_
      rintro e w1 ⟨rfl, hb1⟩
      obtain ⟨hc1, hf1⟩ := bcell hb1
      have hz1 := hb1.size
      try simp at hz1
      go_wp2_with fail
      rw [E2.out]
      refine (C2.out _).mono ?_
      rintro e w2 ⟨rfl, hbn⟩
      have hb2 := hb1.trans (hbn.mono hb1.size)
      clear hbn
      obtain ⟨hc2, hf2⟩ := bcell hb2
      have hz2 := hb2.size
      try simp at hz2
      go_wp2_with fail
      go_ret
      rw [HRES.out]
      exact ⟨rfl, by (repeat (first | exact Below.refl _ _ | assumption | refine Below.trans ?_ (Below.mono (by assumption) (by first | omega | (simp; done) | (simp; omega))) | refine Below.alloc ?_ (by first | omega | (simp; done) | (simp; omega)) _ | refine Below.setCell ?_ (by first | omega | (simp; done) | (simp; omega)) _ | refine Below.drew ?_ | refine below_drewN ?_ _))⟩

theorem run_conv_digit (n : Nat) (h : n < 10) (w : World) : (convert 86 9 (.slice (some ⟨w.heap.size, 0, none⟩) 1 1)).run Try.prog (w.alloc (.cells #[.int .u8 (48 + (n : Int))] 5)) = .ok (.string (decB n)) (w.alloc (.cells #[.int .u8 (48 + (n : Int))] 5)) := by
  rw [decB_lt h]
  have := run_convert_bytes_back (P := Try.prog) (w.alloc (.cells #[.int .u8 (48 + (n : Int))] 5)) 86 9 5 ⟨w.heap.size, 0, none⟩ 1 [UInt8.ofNat (48 + n)] Try.underlying86 Try.underlying5 Try.underlying9 (fun j hj => by
    have hj0 : j = 0 := by simp at hj; omega
    subst hj0
    have hu : (UInt8.ofNat (48 + n)).toNat = 48 + n := by
      rw [UInt8.toNat_ofNat']
      omega
    rw [Addr.add_lit]
    simp only [List.getElem_cons_zero, hu]
    rw [World.cell?_alloc_mark]
    simp)
  simpa using this

set_option maxHeartbeats 1000000 in
set_option maxRecDepth 100000 in
theorem decimal_any (n : Nat) : n < 9223372036854775808 → ∀ w : World,
    Calls Try.prog 43 #[.int .i64 (n : Int)] w fun e w' => e = .returned (.string (decB n)) ∧ Below w.heap.size w w' := by
  induction n using Nat.strongRecOn with
  | ind n ih =>
    intro hn w
    have hcv := run_conv_digit (n % 10) (by omega) w
    have e2 : ((n % 10 : Nat) : Int) = (n : Int) % 10 := by omega
    rw [e2] at hcv
    by_cases h : n < 10
    · have h1 : ¬ (n : Int) ≥ 10 := by omega
      have hm : n % 10 = n := Nat.mod_eq_of_lt h
      rw [hm] at hcv
      clear hm e2
      go_enter Try.func43, Try.ntmps43
      go_wp2_with fail
      go_ret
      exact ⟨rfl, by (repeat (first | exact Below.refl _ _ | assumption | refine Below.trans ?_ (Below.mono (by assumption) (by first | omega | (simp; done) | (simp; omega))) | refine Below.alloc ?_ (by first | omega | (simp; done) | (simp; omega)) _ | refine Below.setCell ?_ (by first | omega | (simp; done) | (simp; omega)) _ | refine Below.drew ?_ | refine below_drewN ?_ _))⟩
    · have h1 : (n : Int) ≥ 10 := by omega
      have e1 : (n : Int) / 10 = ((n / 10 : Nat) : Int) := by omega
      have c1 := ih (n / 10) (by omega) (by omega)
      have s1 := decB_size (n / 10)
      have s2 := decB_size (n % 10)
      have hres := decB_ge h
      have HRES := Lib.hid hres
      have C1 := Lib.hid c1
      have E1 := Lib.hid e1
      clear c1 ih hres e1 e2
      go_enter Try.func43, Try.ntmps43
      go_wp2_with fail
      rw [E1.out]
      refine (C1.out _).mono ?_
      rintro e w2 ⟨rfl, hb2⟩
      go_wp2_with fail
      go_ret
      rw [HRES.out]
      exact ⟨rfl, by have h0 : Below w.heap.size w (w.alloc (.cells #[.int .u8 (48 + (n : Int) % 10)] 5)) := (Below.refl _ _).alloc (Nat.le_refl _) _; exact h0.trans (hb2.mono (by simp))⟩

def fmtB (k n : Int) (r : ByteArray) : ByteArray :=
  if k = 1 then ⟨#[105, 110, 116]⟩ else if k = 2 then ⟨#[98, 111, 111, 108]⟩
  else if k = 3 then (if n < 0 then ⟨#[]⟩ else ⟨#[105, 110, 116, 91]⟩ ++ decB n.toNat ++ ⟨#[93]⟩)
  else if k = 4 then r else if k = 5 then ⟨#[97, 114, 114, 97, 121]⟩ else if k = 6 then ⟨#[105, 110, 116, 32, 111, 114, 32, 98, 111, 111, 108]⟩ else ⟨#[]⟩

set_option maxHeartbeats 1000000 in
set_option maxRecDepth 100000 in
theorem Format_any (k n : Int) (r : ByteArray) (hn : n < 9223372036854775808) (w : World) :
    Calls Try.prog 36 #[.agg #[.int .i64 k, .int .i64 n, .string r]] w fun e w' => e = .returned (.string (fmtB k n r)) ∧ Below w.heap.size w w' := by
  by_cases h3 : k = 3 ∧ 0 ≤ n
  · obtain ⟨rfl, h0⟩ := h3
    obtain ⟨m, rfl⟩ := Int.eq_ofNat_of_zero_le h0
    have hs := decB_size m
    have hm : ¬ (m : Int) < 0 := by omega
    have hres : fmtB 3 m r = ⟨#[105, 110, 116, 91]⟩ ++ decB m ++ ⟨#[93]⟩ := by simp [fmtB, hm]
    have e1 : (ByteArray.mk #[105, 110, 116, 91]).size = 4 := rfl
    have e2 : (ByteArray.mk #[93]).size = 1 := rfl
    have e3 : ((ByteArray.mk #[105, 110, 116, 91]) ++ decB m).size = 4 + (decB m).size := by rw [size_app, e1]
    have HRES := Lib.hid hres
    clear hres
    go_enter Try.func36, Try.ntmps36
    go_wp2_with fail
    refine (digits_any m (by omega) _).mono ?_
    rintro e w2 ⟨rfl, hb2⟩
    go_wp2_with fail
    go_ret
    rw [HRES.out]
    have h1 : Below w.heap.size w (w.alloc (.cells #[.int .i64 3, .int .i64 (m : Int), .string r] 23)) := (Below.refl _ _).alloc (Nat.le_refl _) _
    exact ⟨rfl, h1.trans (hb2.mono (by simp))⟩
  · go_enter Try.func36, Try.ntmps36
    go_wp2_with fail
    all_goals first
      | (exfalso; simp at *; omega)
      | (go_ret
         refine ⟨?_, by (repeat (first | exact Below.refl _ _ | assumption | refine Below.trans ?_ (Below.mono (by assumption) (by first | omega | (simp; done) | (simp; omega))) | refine Below.alloc ?_ (by first | omega | (simp; done) | (simp; omega)) _ | refine Below.setCell ?_ (by first | omega | (simp; done) | (simp; omega)) _ | refine Below.drew ?_ | refine below_drewN ?_ _))⟩
         simp_all [fmtB])

set_option maxHeartbeats 1000000 in
set_option maxRecDepth 100000 in
theorem FormatR_any (k n : Int) (r : ByteArray) (hn : n < 9223372036854775808) (w : World) :
    Calls Try.prog 37 #[.agg #[.int .i64 k, .int .i64 n, .string r]] w fun e w' => e = .returned (.string (fmtB k n r)) ∧ Below w.heap.size w w' := by
  by_cases h3 : k = 3 ∧ 0 ≤ n
  · obtain ⟨rfl, h0⟩ := h3
    obtain ⟨m, rfl⟩ := Int.eq_ofNat_of_zero_le h0
    have hs := decB_size m
    have hm : ¬ (m : Int) < 0 := by omega
    have hres : fmtB 3 m r = ⟨#[105, 110, 116, 91]⟩ ++ decB m ++ ⟨#[93]⟩ := by simp [fmtB, hm]
    have e1 : (ByteArray.mk #[105, 110, 116, 91]).size = 4 := rfl
    have e2 : (ByteArray.mk #[93]).size = 1 := rfl
    have e3 : ((ByteArray.mk #[105, 110, 116, 91]) ++ decB m).size = 4 + (decB m).size := by rw [size_app, e1]
    have HRES := Lib.hid hres
    clear hres
    go_enter Try.func37, Try.ntmps37
    go_wp2_with fail
    refine (decimal_any m (by omega) _).mono ?_
    rintro e w2 ⟨rfl, hb2⟩
    go_wp2_with fail
    go_ret
    rw [HRES.out]
    have h1 : Below w.heap.size w (w.alloc (.cells #[.int .i64 3, .int .i64 (m : Int), .string r] 23)) := (Below.refl _ _).alloc (Nat.le_refl _) _
    exact ⟨rfl, h1.trans (hb2.mono (by simp))⟩
  · go_enter Try.func37, Try.ntmps37
    go_wp2_with fail
    all_goals first
      | (exfalso; simp at *; omega)
      | (go_ret
         refine ⟨?_, by (repeat (first | exact Below.refl _ _ | assumption | refine Below.trans ?_ (Below.mono (by assumption) (by first | omega | (simp; done) | (simp; omega))) | refine Below.alloc ?_ (by first | omega | (simp; done) | (simp; omega)) _ | refine Below.setCell ?_ (by first | omega | (simp; done) | (simp; omega)) _ | refine Below.drew ?_ | refine below_drewN ?_ _))⟩
         simp_all [fmtB])

end Go.Proofs.Ytpdimehoepfgaaa
