/- Maps keyed by ints: a block that is a map reads as a function from keys to values; look-up and store. No program is named here. -/
import Derived.Test.YtpdimehoepfgaaaMem
import Derived.Maps.Own
namespace Go.Proofs.Ytpdimehoepfgaaa
open Go.RowKit

def isKey (k : Int) (e : MapEntry) : Bool :=
  match e.key with
  | .int .i64 j => decide (k = j)
  | _ => false

def valAt (es : List MapEntry) (k : Int) : Option Value := (es.find? (isKey k)).map (·.val)

def intKeys (es : List MapEntry) : Prop := ∀ e ∈ es, ∃ k, e.key = .int .i64 k

theorem findNow_int (k : Int) : ∀ (es : List MapEntry) (i : Nat), intKeys es →
    Instr.findNow (.int .i64) (.int .i64 k) es i = some ((es.findIdx? (isKey k)).bind fun j => (es[j]?).map fun e => (i + j, e.val)) := by
  intro es
  induction es with
  | nil => intro i _; rfl
  | cons e es ih =>
    intro i hk
    obtain ⟨j, hj⟩ := hk e (by simp)
    have hes : intKeys es := fun e he => hk e (by simp [he])
    by_cases h : k = j
    · subst h
      simp [Instr.findNow, Instr.sameNow, hj, isKey, List.findIdx?_cons]
    · have h2 : (k == j) = false := by simpa using h
      simp only [Instr.findNow, Instr.sameNow, hj, if_true, h2]
      rw [ih (i + 1) hes]
      have hki : isKey k e = false := by simp [isKey, hj, h]
      simp only [List.findIdx?_cons, hki, Bool.false_eq_true, if_false]
      cases hx : es.findIdx? (isKey k) with
      | none => rfl
      | some x => simp [Nat.add_comm, Nat.add_left_comm]

/-- Block r is a map keyed by ints that holds f. -/
def IMap (w : World) (r : Nat) (f : Int → Option Value) : Prop :=
  ∃ es clock, w.heap[r]? = some (.map es clock) ∧ intKeys es.toList ∧ ∀ k, valAt es.toList k = f k

section
variable {w w' : World} {r : Nat} {f : Int → Option Value}
theorem IMap.keep (h : IMap w r f) (hk : w'.heap[r]? = w.heap[r]?) : IMap w' r f := by
  obtain ⟨es, clock, h1, h2⟩ := h
  exact ⟨es, clock, hk.trans h1, h2⟩
theorem IMap.lt (h : IMap w r f) : r < w.heap.size := by
  obtain ⟨es, clock, h1, _⟩ := h
  exact (Array.getElem?_eq_some_iff.1 h1).1
theorem IMap.alloc (h : IMap w r f) (o : Obj) : IMap (w.alloc o) r f := h.keep (Below.heap_alloc w o r h.lt)
theorem IMap.drew (h : IMap w r f) : IMap w.drew r f := h
theorem IMap.drewN (h : IMap w r f) (n : Nat) : IMap (w.drewN n) r f := h
theorem IMap.setCell (h : IMap w r f) {p : Addr} (hp : r ≠ p.block) (u : Value) : IMap (w.setCell p u) r f := h.keep (Below.heap_setCell w p u r hp)
theorem IMap.below {B : Nat} (h : IMap w r f) (hb : Below B w w') (hg : r < B) : IMap w' r f := h.keep (hb.block r hg)
theorem IMap.grown {row : Option Nat} (h : IMap w r f) (hb : w.grownBy w' row) (hg : some r ≠ row) : IMap w' r f := h.keep (hb.block r h.lt hg)
theorem IMap.made (w : World) : IMap (w.alloc (.map #[] 0)) w.heap.size (fun _ => none) := ⟨#[], 0, heap_alloc_new w _, by intro e he; simp at he, fun k => rfl⟩
end

section
variable {P : Program} {w : World} {t kt et : TypeId} {r : Nat} {f : Int → Option Value}

theorem run_findKey_int (hk : P.underlying kt = some (.int .i64)) (k : Int) (es : List MapEntry) (h : intKeys es) (w : World) :
    (Instr.findKey kt (.int .i64 k) es).run P w = .ok ((es.findIdx? (isKey k)).bind fun j => (es[j]?).map fun e => (j, e.val)) w := by
  simp [Instr.findKey, run_underlying hk, findNow_int k es 0 h]

theorem run_checkKey_int (b : Bool) (n : Nat) (hk : P.underlying kt = some (.int .i64)) (k : Int) (w : World) : (Instr.checkKey b (n + 1) kt (.int .i64 k)).run P w = .ok () w := by
  simp [Instr.checkKey, run_underlying hk]

theorem valAt_idx (es : List MapEntry) (k : Int) : valAt es k = (es.findIdx? (isKey k)).bind fun j => (es[j]?).map (·.val) := by
  unfold valAt
  induction es with
  | nil => rfl
  | cons e es ih =>
    by_cases h : isKey k e = true
    · simp [List.findIdx?_cons, h]
    · simp only [List.find?_cons, List.findIdx?_cons, h, if_false, Bool.false_eq_true]
      rw [ih]
      cases es.findIdx? (isKey k) <;> simp

theorem run_lookup_int (ht : P.underlying t = some (.map kt et)) (hk : P.underlying kt = some (.int .i64)) {z : Value} (hz : ∀ w, (zeroValue et).run P w = .ok z w) (h : IMap w r f) (k : Int) :
    (Instr.lookup t (.map (some r)) (.int .i64 k) false).run P w = .ok ((f k).getD z) w := by
  obtain ⟨es, clock, h1, h2, h3⟩ := h
  have h4 := h3 k
  rw [valAt_idx] at h4
  simp [Instr.lookup, run_underlying ht, MapKept.run_getObj_map h1, run_checkKey_int _ _ hk, run_findKey_int hk k es.toList h2]
  cases hx : es.toList.findIdx? (isKey k) with
  | none =>
    rw [hx] at h4
    simp at h4
    rw [← h4]
    simp [hz]
  | some j =>
    rw [hx] at h4
    have hj : j < es.toList.length := by
      have := List.findIdx?_eq_some_iff_getElem.1 hx
      exact this.1
    simp only [Option.bind_some, List.getElem?_eq_getElem hj, Option.map_some] at h4 ⊢
    rw [← h4]
    have hj' : j < es.size := by simpa using hj
    simp [Array.getElem?_eq_getElem hj']

theorem valAt_cons (e : MapEntry) (es : List MapEntry) (k : Int) : valAt (e :: es) k = if isKey k e = true then some e.val else valAt es k := by
  unfold valAt
  by_cases h : isKey k e = true
  · simp [h]
  · simp [h]

theorem valAt_modify (k j : Int) (v : Value) : ∀ (es : List MapEntry) (i : Nat), es.findIdx? (isKey k) = some i → intKeys es →
    valAt (es.modify i fun e => { e with key := .int .i64 k, val := v }) j = if j = k then some v else valAt es j := by
  intro es
  induction es with
  | nil => intro i h; simp at h
  | cons e es ih =>
    intro i h hk
    obtain ⟨q, hq⟩ := hk e (by simp)
    rw [List.findIdx?_cons] at h
    by_cases hke : isKey k e = true
    · rw [if_pos hke] at h
      cases h
      have hqk : k = q := by
        unfold isKey at hke
        rw [hq] at hke
        simpa using hke
      subst hqk
      rw [List.modify_zero_cons, valAt_cons, valAt_cons]
      have h1 : isKey j { e with key := .int .i64 k, val := v } = decide (j = k) := rfl
      have h2 : isKey j e = decide (j = k) := by unfold isKey; rw [hq]
      rw [h1, h2]
      by_cases hj : j = k <;> simp [hj]
    · rw [if_neg hke] at h
      cases hx : es.findIdx? (isKey k) with
      | none => rw [hx] at h; cases h
      | some i' =>
        rw [hx] at h
        cases h
        rw [List.modify_succ_cons, valAt_cons, valAt_cons, ih i' hx (fun e he => hk e (by simp [he]))]
        by_cases hje : isKey j e = true
        · have hj : j ≠ k := by rintro rfl; exact hke hje
          simp [hje, hj]
        · simp [hje]

theorem intKeys_modify (k : Int) (v : Value) : ∀ (es : List MapEntry) (i : Nat), intKeys es → intKeys (es.modify i fun e => { e with key := .int .i64 k, val := v }) := by
  intro es
  induction es with
  | nil => intro i h; simpa using h
  | cons e es ih =>
    intro i h
    cases i with
    | zero =>
      intro x hx
      rw [List.modify_zero_cons] at hx
      rcases List.mem_cons.1 hx with rfl | hx
      · exact ⟨k, rfl⟩
      · exact h x (by simp [hx])
    | succ i =>
      intro x hx
      rw [List.modify_succ_cons] at hx
      rcases List.mem_cons.1 hx with rfl | hx
      · exact h x (by simp)
      · exact ih i (fun e he => h e (by simp [he])) x hx

/-- A store: the same function but at k; only block r has turned. -/
theorem run_mapUpdate_int (ht : P.underlying t = some (.map kt et)) (hk : P.underlying kt = some (.int .i64)) (h : IMap w r f) (k : Int) (v : Value) :
    ∃ w2, (Instr.mapUpdate t (.map (some r)) (.int .i64 k) v).run P w = .ok () w2 ∧ IMap w2 r (fun j => if j = k then some v else f j) ∧ w.grownBy w2 (some r) ∧ w2.heap.size = w.heap.size := by
  obtain ⟨es, clock, h1, h2, h3⟩ := h
  have hlt : r < w.heap.size := (Array.getElem?_eq_some_iff.1 h1).1
  have hgr : ∀ o : Obj, w.grownBy { w with heap := w.heap.setIfInBounds r o } (some r) := fun o =>
    ⟨rfl, rfl, rfl, by simp, fun i _ hi => by simp [Array.getElem?_setIfInBounds]; intro e; exact absurd (by rw [e]) hi⟩
  have hat : ∀ o : Obj, ({ w with heap := w.heap.setIfInBounds r o } : World).heap[r]? = some o := fun o => by simp [hlt]
  cases hx : es.toList.findIdx? (isKey k) with
  | none =>
    refine ⟨{ w with heap := w.heap.setIfInBounds r (.map (es.push { key := .int .i64 k, val := v, born := clock }) (clock + 1)) }, ?_, ⟨_, _, hat _, ?_, ?_⟩, hgr _, by simp⟩
    · simp [Instr.mapUpdate, run_underlying ht, MapKept.run_getObj_map h1, run_checkKey_int _ _ hk, run_findKey_int hk k es.toList h2, hx, MapKept.run_setObj_map _ h1]
    · intro e he
      simp at he
      rcases he with he | rfl
      · exact h2 e (by simpa using he)
      · exact ⟨k, rfl⟩
    · intro j
      have hn : ∀ e ∈ es.toList, isKey k e = false := by simpa using hx
      by_cases hj : j = k
      · subst hj
        have : es.toList.find? (isKey j) = none := by simpa using hn
        simp [valAt, List.find?_append, this, isKey]
      · have hs : isKey j ⟨.int .i64 k, v, clock⟩ = false := by simp [isKey, hj]
        simp only [if_neg hj, ← h3 j, valAt, Array.toList_push, List.find?_append, List.find?_cons, hs, List.find?_nil, Option.or_none]
  | some i =>
    have hi := List.findIdx?_eq_some_iff_getElem.1 hx
    obtain ⟨hil, hik, hib⟩ := hi
    have hkey : es.toList[i].key = .int .i64 k := by
      obtain ⟨j, hj⟩ := h2 _ (List.getElem_mem hil)
      rw [hj]
      unfold isKey at hik
      rw [hj] at hik
      simp at hik
      rw [hik]
    have hil' : i < es.size := by simpa using hil
    have hkey' : es[i].key = .int .i64 k := by simpa using hkey
    refine ⟨{ w with heap := w.heap.setIfInBounds r (.map (es.modify i fun e => { e with key := .int .i64 k, val := v }) clock) }, ?_, ⟨_, _, hat _, ?_, ?_⟩, hgr _, by simp⟩
    · simp [Instr.mapUpdate, run_underlying ht, MapKept.run_getObj_map h1, run_checkKey_int _ _ hk, run_findKey_int hk k es.toList h2, hx, MapKept.run_setObj_map _ h1, Instr.keyThatStays, Instr.sameBits, hil', hkey']
    · rw [Array.toList_modify]
      exact intKeys_modify k v _ _ h2
    · intro j
      rw [Array.toList_modify, valAt_modify k j v _ _ hx h2, h3]

end
end Go.Proofs.Ytpdimehoepfgaaa
