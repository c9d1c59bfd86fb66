/- Solve, walked. -/
import Derived.Test.YtpdimehoepfgaaaSolveM
import Derived.Test.YtpdimehoepfgaaaOwn
import Derived.Test.YtpdimehoepfgaaaSort
import Derived.Test.YtpdimehoepfgaaaHeld
namespace Go.Proofs.Ytpdimehoepfgaaa
open Go.RowKit

theorem inside_any (v : Int) (n b0 : Nat) (w : World) (hc : w.cell? ⟨b0, 0, none⟩ = some (.int .i64 (n : Int))) :
    Calls Try.prog 27 #[.int .i64 v, .pointer (some ⟨b0, 0, none⟩)] w fun e w' => e = .returned (.bool (inB n v)) ∧ w = w' := by
  by_cases h1 : 0 ≤ v
  · by_cases h2 : v < (n : Int)
    · go_enter Try.func27, Try.ntmps27
      go_wp2
      go_ret
      exact ⟨ret_bool (by simp [inB, h1, h2]), rfl⟩
    · go_enter Try.func27, Try.ntmps27
      go_wp2
      go_ret
      exact ⟨ret_bool (by simp [inB, h1]; omega), rfl⟩
  · go_enter Try.func27, Try.ntmps27
    go_wp2
    go_ret
    exact ⟨ret_bool (by simp [inB]; omega), rfl⟩

theorem edges_info : (Try.prog.info? 53).map (fun i => (i.zero, i.size, i.bytes)) = some (some (.slice none 0 0), 1, 24) := by kernel_rfl
theorem edge_info : (Try.prog.info? 55).map (fun i => (i.zero, i.size, i.bytes)) = some (some (.agg #[.int .i64 0, .int .i64 0]), 2, 16) := by kernel_rfl

theorem news_two (w : World) (g : Nat) (u u' : Value) (h : w.cell? ⟨g, 0, none⟩ = some u) (h' : w.cell? ⟨g, 1, none⟩ = some u') : ∀ j v, [u, u'][j]? = some v → w.cell? ((⟨g, 0, none⟩ : Addr).add j) = some v := by
  intro j v hj
  match j, hj with
  | 0, hj => simp at hj; subst hj; exact h
  | 1, hj => simp at hj; subst hj; exact h'
  | j + 2, hj => simp at hj

/-- make([]T, n), T of one cell. -/
theorem run_make_one (t e : TypeId) (z : Value) (bytes : Nat) (ht : Try.prog.underlying t = some (.slice e)) (hinfo : (Try.prog.info? e).map (fun i => (i.zero, i.size, i.bytes)) = some (some z, 1, bytes)) (hz : z.cells = #[z]) (hb : bytes ≤ 1000) (n : Nat) (hn : n ≤ 1000000) (w : World) :
    (Instr.makeSlice t (.int .i64 (n : Int)) (.int .i64 (n : Int))).run Try.prog w = .ok (.slice (some ⟨w.heap.size, 0, none⟩) n n) (w.alloc (.cells (Array.replicate n z) e)) := by
  obtain ⟨i0, hi0, hz0, hz1, hz2⟩ := info_parts hinfo
  have hbn : (bytes : Int) * (n : Int) ≤ 1000 * 1000000 := by
    have h1 : bytes * n ≤ 1000 * 1000000 := Nat.mul_le_mul hb hn
    have h2 : ((bytes * n : Nat) : Int) ≤ ((1000 * 1000000 : Nat) : Int) := by exact_mod_cast h1
    rw [Int.natCast_mul] at h2
    exact h2
  have h := run_make (P := Try.prog) w t e i0 z ht hi0 hz0 .i64 .i64 n n (by omega) (by omega) (by rw [hz2]; omega) (by omega)
  rw [h]
  simp only [Int.toNat_natCast, hz1, Nat.mul_one]
  have h2 : madeCells z.cells n = Array.replicate n z := by
    apply Array.ext'
    rw [hz, toList_madeCells_one]
    simp
  rw [h2]

/-- The chains that Solve returns, read. -/
def ChainsAt (w : World) (B : Nat) (A : Option Addr) (chs : List (List Int)) : Prop :=
  ∀ k ch, chs[k]? = some ch → ∃ b off Ai c, A = some ⟨b, off, none⟩ ∧ b < B ∧ w.cell? ⟨b, off + k, none⟩ = some (.slice Ai ch.length c) ∧ ch.length ≤ c ∧ RowAt 1 (fun z => [Value.int .i64 z]) w B Ai ch

def TysBlk (w : World) (g : Nat) (l : List Ty) : Prop := Blk w g 23 (l.flatMap tyCells).toArray

/-- What Solve answers at n vertices. -/
def SolvePost (w : World) (n : Nat) (l : List Con) (e : Ending) (w' : World) : Prop :=
  Below w.heap.size w w' ∧
  if l.all (okCon n) = true then
    ∃ g A c, e = .returned (.tuple #[.slice (some ⟨g, 0, none⟩) n n, .slice A (solveUpto l n n).chains.length c, .int .i64 0]) ∧ w.heap.size ≤ g ∧ TysBlk w' g (solveUpto l n n).out ∧ ChainsAt w' w'.heap.size A (solveUpto l n n).chains
  else e = .returned (.tuple #[.slice none 0 0, .slice none 0 0, .int .i64 1])

theorem solve_bad {w w' : World} {n : Nat} {l : List Con} {k : Nat} {c : Con} (hc : l[k]? = some c) (hbad : okCon n c = false) (hb : Below w.heap.size w w') :
    SolvePost w n l (.returned (.tuple #[.slice none 0 0, .slice none 0 0, .int .i64 1])) w' := by
  refine ⟨hb, ?_⟩
  rw [if_neg]
  intro h
  have := List.all_eq_true.1 h c (List.mem_of_getElem? hc)
  rw [hbad] at this
  cases this

set_option maxRecDepth 100000 in
theorem solve_range (vert : Int) (AL : Option Addr) (nl cL : Nat) (w : World) (h : vert < 0 ∨ 4096 < vert) :
    Calls Try.prog 12 #[.int .i64 vert, .slice AL nl cL] w fun e w' => e = .returned (.tuple #[.slice none 0 0, .slice none 0 0, .int .i64 2]) ∧ Below w.heap.size w w' := by
  rcases h with h | h
  · go_enter Try.func12, Try.ntmps12
    go_wp2_with fail
    go_ret3
    exact ⟨rfl, by (repeat (first | exact Below.refl _ _ | assumption | refine Below.trans ?_ (Below.mono (by assumption) (by first | omega | (simp; done) | (simp; omega))) | refine Below.alloc ?_ (by first | omega | (simp; done) | (simp; omega)) _ | refine Below.setCell ?_ (by first | omega | (simp; done) | (simp; omega)) _ | refine Below.drew ?_ | refine below_drewN ?_ _))⟩
  · have h2 : ¬ vert < 0 := by omega
    go_enter Try.func12, Try.ntmps12
    go_wp2_with fail
    go_ret3
    exact ⟨rfl, by (repeat (first | exact Below.refl _ _ | assumption | refine Below.trans ?_ (Below.mono (by assumption) (by first | omega | (simp; done) | (simp; omega))) | refine Below.alloc ?_ (by first | omega | (simp; done) | (simp; omega)) _ | refine Below.setCell ?_ (by first | omega | (simp; done) | (simp; omega)) _ | refine Below.drew ?_ | refine below_drewN ?_ _))⟩

end Go.Proofs.Ytpdimehoepfgaaa
