/- Solve at any number of vertices, in one contract; few. -/
import Derived.Test.YtpdimehoepfgaaaPl4
import Derived.Test.YtpdimehoepfgaaaAwake
import Derived.Test.YtpdimehoepfgaaaLawE
namespace Go.Proofs.Ytpdimehoepfgaaa
open Go.RowKit

/-- What Solve answers: types, chains, an error's number. -/
def SolveRes (w : World) (tys : List Ty) (chs : List (List Int)) (err : Int) (e : Ending) (w' : World) : Prop :=
  ∃ A1 c1 A2 c2, e = .returned (.tuple #[.slice A1 tys.length c1, .slice A2 chs.length c2, .int .i64 err]) ∧ RowAt 3 tyCells w' w'.heap.size A1 tys ∧ ChainsAt w' w'.heap.size A2 chs ∧ Below w.heap.size w w'

theorem Solve_all (vert : Int) (AL : Option Addr) (nl cL : Nat) (l : List Con) (w : World) (hL : RowAt 8 conCells w w.heap.size AL l) (hl : l.length = nl) (hnl : nl ≤ 200) :
    Calls Try.prog 12 #[.int .i64 vert, .slice AL nl cL] w (SolveRes w (solveTys vert l) (solveChs vert l) (solveErr vert l)) := by
  by_cases hr : vert < 0 ∨ 4096 < vert
  · have he : solveErr vert l = 2 := by unfold solveErr; rw [if_pos hr]
    refine (solve_range vert AL nl cL w hr).mono ?_
    rintro e w' ⟨rfl, hb⟩
    unfold solveTys solveChs
    rw [he]
    exact ⟨none, 0, none, 0, rfl, fun k c hk => by simp at hk, fun k c hk => by simp at hk, hb⟩
  · have hn : vert = ((vert.toNat : Nat) : Int) := by omega
    have h := solve_any vert.toNat AL nl cL l w hL hl (by omega) hnl
    rw [← hn] at h
    refine h.mono ?_
    rintro e w' ⟨hb, hp⟩
    unfold solveTys solveChs solveErr
    rw [if_neg hr]
    split at hp
    · rename_i ha
      obtain ⟨g, A, c, rfl, hg, hT, hC⟩ := hp
      rw [if_pos ha, if_pos rfl, if_pos rfl]
      refine ⟨some ⟨g, 0, none⟩, vert.toNat, A, c, ?_, TysBlk.row hT, hC, hb⟩
      rw [(solveUpto_len l vert.toNat vert.toNat).1]
    · rename_i ha
      subst hp
      rw [if_neg ha]
      exact ⟨none, 0, none, 0, rfl, fun k c hk => by simp at hk, fun k c hk => by simp at hk, hb⟩

def fewB (vert : Int) (nl : Nat) : Bool := decide (nl ≤ 80) && (decide (vert ≤ 60) || decide (4096 < vert))

theorem few_any (vert : Int) (AL : Option Addr) (nl cL : Nat) (w : World) (hn : nl ≤ maxLen) :
    Calls Try.prog 11 #[.int .i64 vert, .slice AL nl cL] w fun e w' => e = .returned (.bool (fewB vert nl)) ∧ w = w' := by
  unfold maxLen at hn
  by_cases h1 : nl ≤ 80
  · by_cases h2 : vert ≤ 60
    · go_enter Try.func11, Try.ntmps11
      go_wp2
      go_ret
      exact ⟨ret_bool (by simp [fewB, h1, h2]), rfl⟩
    · by_cases h3 : 4096 < vert
      · go_enter Try.func11, Try.ntmps11
        go_wp2
        go_ret
        exact ⟨ret_bool (by simp [fewB, h1, h3]), rfl⟩
      · go_enter Try.func11, Try.ntmps11
        go_wp2
        go_ret
        exact ⟨ret_bool (by simp [fewB]; omega), rfl⟩
  · go_enter Try.func11, Try.ntmps11
    go_wp2
    go_ret
    exact ⟨ret_bool (by simp [fewB]; omega), rfl⟩

theorem flat_at {α : Type} {cells : α → List Value} {size : Nat} : ∀ (l : List α), (∀ c ∈ l, (cells c).length = size) → ∀ (j : Nat) (u : Value), (l.flatMap cells)[j]? = some u → ∃ (q r : Nat) (c : α), j = q * size + r ∧ l[q]? = some c ∧ (cells c)[r]? = some u := by
  intro l
  induction l with
  | nil => intro _ j u h; simp at h
  | cons y l ih =>
    intro hl j u h
    have hy := hl y (by simp)
    rw [List.flatMap_cons] at h
    by_cases hj : j < size
    · rw [List.getElem?_append_left (by omega)] at h
      exact ⟨0, j, y, by omega, rfl, h⟩
    · rw [List.getElem?_append_right (by omega), hy] at h
      obtain ⟨q, r, c, h1, h2, h3⟩ := ih (fun c hc => hl c (by simp [hc])) _ _ h
      exact ⟨q + 1, r, c, by rw [Nat.succ_mul]; omega, by simpa using h2, h3⟩

theorem RowAt.newsN {α : Type} {size : Nat} {cells : α → List Value} {w : World} {B : Nat} {A : Option Addr} {l : List α} (h : RowAt size cells w B A l) (hl : ∀ c ∈ l, (cells c).length = size) :
    ∀ j u, (l.flatMap cells)[j]? = some u → ∃ a, A = some a ∧ w.cell? (a.add j) = some u := by
  intro j u hj
  obtain ⟨q, r, c, rfl, hq, hr⟩ := flat_at l hl j u hj
  obtain ⟨b, off, hA, _, hc⟩ := h q c hq
  refine ⟨_, hA, ?_⟩
  rw [Addr.add_lit, ← Nat.add_assoc]
  exact hc r u hr

theorem RowAt.drop {α : Type} {size : Nat} {cells : α → List Value} {w : World} {B b off : Nat} {l : List α} (h : RowAt size cells w B (some ⟨b, off, none⟩) l) (k : Nat) : RowAt size cells w B (some ⟨b, off + k * size, none⟩) (l.drop k) := by
  intro q c hq
  rw [List.getElem?_drop] at hq
  obtain ⟨b', off', hA, hlt, hc⟩ := h (k + q) c hq
  cases hA
  refine ⟨b, off + k * size, rfl, hlt, fun j u hj => ?_⟩
  have := hc j u hj
  rw [show off + k * size + q * size + j = off + (k + q) * size + j by rw [Nat.add_mul]; omega]
  exact this

theorem RowAt.take {α : Type} {size : Nat} {cells : α → List Value} {w : World} {B : Nat} {A : Option Addr} {l : List α} (h : RowAt size cells w B A l) (k : Nat) : RowAt size cells w B A (l.take k) := by
  intro q c hq
  rw [List.getElem?_take] at hq
  split at hq
  · exact h q c hq
  · cases hq

theorem con_one (l : List Con) : ∀ u ∈ l.flatMap conCells, u.oneCell' = true := by
  intro u hu
  obtain ⟨c, _, hc⟩ := List.mem_flatMap.1 hu
  simp [conCells] at hc
  rcases hc with rfl | rfl | rfl | rfl | rfl | rfl | rfl | rfl <;> rfl

theorem con_len (l : List Con) : (l.flatMap conCells).length = l.length * 8 := by
  induction l with
  | nil => rfl
  | cons c l ih => rw [List.flatMap_cons, List.length_append, ih, List.length_cons, Nat.succ_mul]; simp [conCells]; omega

theorem run_slice_upto {P : Program} (w : World) (t e : TypeId) (i : TypeInfo) (ht : P.underlying t = some (.slice e)) (hi : P.info? e = some i) (a : Option Addr) (len cap k : Nat) (hk : k ≤ cap) :
    (Instr.slice t (.slice a len cap) none (some (.int .i64 (k : Int))) none).run P w = .ok (.slice a k cap) w := by
  have e : Option.map (fun x : Addr => x.add 0) a = a := by cases a <;> simp [Addr.add]
  simp [Instr.slice, run_underlying ht, Instr.sliceBounds, Instr.sliceBound, asIntOf, sizeOf, typeInfo, hi]
  rw [if_pos hk, e, ite_self]

end Go.Proofs.Ytpdimehoepfgaaa
