/- The model of Solve: what is collected, and what is returned. -/
import Derived.Test.YtpdimehoepfgaaaChain
namespace Go.Proofs.Ytpdimehoepfgaaa

structure Ty where
  k : Int
  n : Int
  r : ByteArray

def tyCells (t : Ty) : List Value := [.int .i64 t.k, .int .i64 t.n, .string t.r]
def zeroTy : Ty := ⟨0, 0, ⟨#[]⟩⟩
def Con.mark (c : Con) : Ty := ⟨c.tk, c.tl, c.tr⟩

def inB (n : Nat) (v : Int) : Bool := decide (0 ≤ v) && decide (v < (n : Int))

def okCon (n : Nat) (c : Con) : Bool := inB n c.a && ((c.kind == 0 && isMarkB c.tk c.tl c.tr) || (c.kind == 1 && inB n c.b))

/-- The edges that constraint i lays at v. -/
def edgesBy (i : Nat) (c : Con) (v : Nat) : List Edge :=
  if c.kind = 1 then (if c.a = (v : Int) then [⟨i, c.b.toNat⟩] else []) ++ (if c.b = (v : Int) then [⟨i, c.a.toNat⟩] else []) else []

def edgesUpto (l : List Con) (k v : Nat) : List Edge := (List.range k).flatMap fun i => match l[i]? with | some c => edgesBy i c v | none => []

def edgesM (l : List Con) (n k : Nat) : List (List Edge) := (List.range n).map (edgesUpto l k)

def marksUpto (l : List Con) (k v : Nat) : List Nat := (List.range k).filter fun i => match l[i]? with | some c => decide (c.kind = 0 ∧ c.a = (v : Int)) | none => false

theorem edgesUpto_succ (l : List Con) (k v : Nat) (c : Con) (h : l[k]? = some c) : edgesUpto l (k + 1) v = edgesUpto l k v ++ edgesBy k c v := by
  unfold edgesUpto
  rw [List.range_succ, List.flatMap_append]
  simp [h]

theorem marksUpto_succ (l : List Con) (k v : Nat) (c : Con) (h : l[k]? = some c) : marksUpto l (k + 1) v = if c.kind = 0 ∧ c.a = (v : Int) then marksUpto l k v ++ [k] else marksUpto l k v := by
  unfold marksUpto
  rw [List.range_succ, List.filter_append]
  by_cases hc : c.kind = 0 ∧ c.a = (v : Int)
  · simp [h, hc]
  · have : (List.filter (fun i => match l[i]? with | some c => decide (c.kind = 0 ∧ c.a = (v : Int)) | none => false) [k]) = [] := by simp [h]; simpa using hc
    rw [this, if_neg hc, List.append_nil]

theorem marksUpto_mark (l : List Con) (k a : Nat) (c : Con) (h : l[k]? = some c) (hk : c.kind = 0) (ha : c.a = (a : Int)) : marksUpto l (k + 1) = fun u => if u = a then marksUpto l k a ++ [k] else marksUpto l k u := by
  funext u
  rw [marksUpto_succ l k u c h]
  by_cases hu : u = a
  · subst hu
    simp [hk, ha]
  · have : ¬ ((a : Int) = (u : Int)) := by omega
    simp [hk, ha, this, hu]

theorem marksUpto_equal (l : List Con) (k : Nat) (c : Con) (h : l[k]? = some c) (hk : c.kind ≠ 0) : marksUpto l (k + 1) = marksUpto l k := by
  funext u
  rw [marksUpto_succ l k u c h]
  simp [hk]

theorem marksUpto_len (l : List Con) (k v : Nat) : (marksUpto l k v).length ≤ k := by
  unfold marksUpto
  exact Nat.le_trans (List.length_filter_le _ _) (by simp)

theorem inB_nat {n : Nat} {v : Int} (h : inB n v = true) : ∃ a : Nat, v = (a : Int) ∧ a < n := by
  simp [inB] at h
  exact ⟨v.toNat, by omega, by omega⟩

theorem edgesM_len (l : List Con) (n k : Nat) : (edgesM l n k).length = n := by simp [edgesM]

theorem edgesM_get (l : List Con) (n k v : Nat) (hv : v < n) : (edgesM l n k)[v]? = some (edgesUpto l k v) := by simp [edgesM, hv]

theorem edgesM_mark (l : List Con) (n k : Nat) (c : Con) (h : l[k]? = some c) (hk : c.kind ≠ 1) : edgesM l n (k + 1) = edgesM l n k := by
  unfold edgesM
  apply List.map_congr_left
  intro v _
  rw [edgesUpto_succ l k v c h]
  simp [edgesBy, hk]

theorem edgesM_equal (l : List Con) (n k a b : Nat) (c : Con) (h : l[k]? = some c) (hk : c.kind = 1) (ha : c.a = (a : Int)) (hb : c.b = (b : Int)) (han : a < n) (hbn : b < n) :
    ∀ es1 es2, (edgesM l n k)[a]? = some es1 → ((edgesM l n k).set a (es1 ++ [⟨k, b⟩]))[b]? = some es2 →
      ((edgesM l n k).set a (es1 ++ [⟨k, b⟩])).set b (es2 ++ [⟨k, a⟩]) = edgesM l n (k + 1) := by
  intro es1 es2 h1 h2
  rw [edgesM_get l n k a han] at h1
  cases h1
  apply List.ext_getElem?
  intro v
  by_cases hv : v < n
  · rw [edgesM_get l n (k + 1) v hv, edgesUpto_succ l k v c h, List.getElem?_set]
    have hel := edgesM_len l n k
    by_cases hvb : b = v
    · subst hvb
      rw [if_pos rfl, if_pos (by simp [hel, hbn])]
      rw [List.getElem?_set] at h2
      by_cases hab : a = b
      · subst hab
        rw [if_pos rfl, if_pos (by rw [hel]; exact han)] at h2
        cases h2
        simp [edgesBy, hk, ha, hb]
      · rw [if_neg hab, edgesM_get l n k b hbn] at h2
        cases h2
        have : ¬ ((a : Int) = (b : Int)) := by omega
        simp [edgesBy, hk, ha, hb, this]
    · rw [if_neg hvb, List.getElem?_set]
      have hbv : ¬ ((b : Int) = (v : Int)) := by omega
      by_cases hav : a = v
      · subst hav
        rw [if_pos rfl, if_pos (by rw [hel]; exact han)]
        simp [edgesBy, hk, ha, hb, hbv]
      · rw [if_neg hav, edgesM_get l n k v hv]
        have h3 : ¬ ((a : Int) = (v : Int)) := by omega
        simp [edgesBy, hk, ha, hb, hbv, h3]
  · rw [List.getElem?_eq_none (by simp [edgesM_len]; omega), List.getElem?_eq_none (by rw [edgesM_len]; omega)]

theorem mem_edgesUpto (l : List Con) (k v : Nat) (e : Edge) : e ∈ edgesUpto l k v ↔ ∃ c, l[e.con]? = some c ∧ e.con < k ∧ c.kind = 1 ∧ ((c.a = (v : Int) ∧ e.to = c.b.toNat) ∨ (c.b = (v : Int) ∧ e.to = c.a.toNat)) := by
  unfold edgesUpto
  rw [List.mem_flatMap]
  constructor
  · rintro ⟨i, hi, he⟩
    rw [List.mem_range] at hi
    cases hl : l[i]? with
    | none => rw [hl] at he; cases he
    | some c =>
      rw [hl] at he
      simp only [edgesBy] at he
      split at he
      · rename_i hk
        rcases List.mem_append.1 he with he | he
        · split at he
          · simp at he
            subst he
            exact ⟨c, hl, hi, hk, .inl ⟨by assumption, rfl⟩⟩
          · cases he
        · split at he
          · simp at he
            subst he
            exact ⟨c, hl, hi, hk, .inr ⟨by assumption, rfl⟩⟩
          · cases he
      · cases he
  · rintro ⟨c, hl, hi, hk, h⟩
    refine ⟨e.con, by simpa using hi, ?_⟩
    rw [hl]
    simp only [edgesBy, hk, if_true]
    rcases h with ⟨ha, ht⟩ | ⟨hb, ht⟩
    · rw [if_pos ha]
      refine List.mem_append.2 (.inl ?_)
      rw [← ht]
      simp
    · rw [if_pos hb]
      refine List.mem_append.2 (.inr ?_)
      rw [← ht]
      simp

theorem mem_marksUpto (l : List Con) (k v i : Nat) : i ∈ marksUpto l k v ↔ ∃ c, l[i]? = some c ∧ i < k ∧ c.kind = 0 ∧ c.a = (v : Int) := by
  unfold marksUpto
  rw [List.mem_filter, List.mem_range]
  constructor
  · rintro ⟨hi, h⟩
    cases hl : l[i]? with
    | none => rw [hl] at h; cases h
    | some c =>
      rw [hl] at h
      simp at h
      exact ⟨c, rfl, hi, h.1, h.2⟩
  · rintro ⟨c, hl, hi, hk, ha⟩
    exact ⟨hi, by rw [hl]; simp [hk, ha]⟩

theorem edgesUpto_len (l : List Con) (v : Nat) : ∀ k, (edgesUpto l k v).length ≤ 2 * k := by
  intro k
  induction k with
  | zero => simp [edgesUpto]
  | succ k ih =>
    cases hk : l[k]? with
    | none =>
      have : edgesUpto l (k + 1) v = edgesUpto l k v := by
        unfold edgesUpto
        rw [List.range_succ, List.flatMap_append]
        simp [hk]
      rw [this]; omega
    | some c =>
      rw [edgesUpto_succ l k v c hk, List.length_append]
      have : (edgesBy k c v).length ≤ 2 := by
        unfold edgesBy
        split
        · rw [List.length_append]
          split <;> split <;> simp
        · simp
      omega

theorem edgesM_set_len (l : List Con) (n k a b : Nat) (es1 es2 : List Edge) (e : Edge) (h1 : es1.length ≤ 2 * k) (hbn : b < n) (h2 : ((edgesM l n k).set a (es1 ++ [e]))[b]? = some es2) : es2.length ≤ 2 * k + 1 := by
  rw [List.getElem?_set] at h2
  split at h2
  · split at h2
    · cases h2
      simp
      omega
    · cases h2
  · rw [edgesM_get l n k b hbn] at h2
    cases h2
    have := edgesUpto_len l b k
    omega

/-- The whole graph of valid constraints is as 'chain' wants it. -/
theorem graphOk (l : List Con) (n : Nat) (h : ∀ c ∈ l, okCon n c = true) (hn : n ≤ 5000) (hl : l.length ≤ 100000) : GraphOk n l.length l (edgesM l n l.length) (marksUpto l l.length) := by
  have hgd : ∀ u, u < n → (edgesM l n l.length).getD u [] = edgesUpto l l.length u := fun u hu => by
    rw [List.getD_eq_getElem?_getD, edgesM_get l n _ u hu]; rfl
  have hok : ∀ (i : Nat) (c : Con), l[i]? = some c → c.kind = 1 → 0 ≤ c.a ∧ c.a < n ∧ 0 ≤ c.b ∧ c.b < n := fun i c hc hk => by
    have := h c (List.mem_of_getElem? hc)
    simp [okCon, inB, hk] at this
    omega
  have hto : ∀ v, v < n → ∀ e ∈ edgesUpto l l.length v, e.to < n ∧ e.con < l.length := fun v hv e he => by
    obtain ⟨c, hc, hi, hk, h1⟩ := (mem_edgesUpto l l.length v e).1 he
    have := hok e.con c hc hk
    omega
  have hmem : ∀ es ∈ edgesM l n l.length, ∃ v, v < n ∧ es = edgesUpto l l.length v := fun es hes => by
    obtain ⟨v, hv, rfl⟩ := List.mem_map.1 hes
    exact ⟨v, by simpa using hv, rfl⟩
  have hlen : ∀ k v, (edgesUpto l k v).length ≤ 2 * k := fun k v => by
    induction k with
    | zero => simp [edgesUpto]
    | succ k ih =>
      cases hk : l[k]? with
      | none =>
        have : edgesUpto l (k + 1) v = edgesUpto l k v := by
          unfold edgesUpto
          rw [List.range_succ, List.flatMap_append]
          simp [hk]
        rw [this]; omega
      | some c =>
        rw [edgesUpto_succ l k v c hk, List.length_append]
        have : (edgesBy k c v).length ≤ 2 := by
          unfold edgesBy
          split
          · rw [List.length_append]
            split <;> split <;> simp
          · simp
        omega
  refine ⟨rfl, edgesM_len _ _ _, fun es hes e he => ?_, fun es hes => ?_, fun es hes e he => ?_, fun v j hj => ?_, fun v => ?_, fun u v hu ⟨e, he, hev⟩ => ?_, hn, by omega⟩
  · obtain ⟨v, hv, rfl⟩ := hmem es hes
    exact (hto v hv e he).1
  · obtain ⟨v, hv, rfl⟩ := hmem es hes
    have := hlen l.length v
    omega
  · obtain ⟨v, hv, rfl⟩ := hmem es hes
    exact (hto v hv e he).2
  · obtain ⟨c, _, hi, _⟩ := (mem_marksUpto l l.length v j).1 hj
    exact hi
  · have : (marksUpto l l.length v).length ≤ l.length := by
      have := List.length_filter_le (fun i => match l[i]? with | some c => decide (c.kind = 0 ∧ c.a = (v : Int)) | none => false) (List.range l.length)
      simpa [marksUpto] using this
    omega
  · rw [hgd u hu] at he
    obtain ⟨c, hc, hi, hk, h1⟩ := (mem_edgesUpto l l.length u e).1 he
    have h2 := hok e.con c hc hk
    have hvn : v < n := by rw [← hev]; omega
    refine ⟨⟨e.con, u⟩, ?_, rfl⟩
    rw [hgd v hvn, mem_edgesUpto]
    refine ⟨c, hc, hi, hk, ?_⟩
    simp only
    rcases h1 with ⟨h3, h4⟩ | ⟨h3, h4⟩
    · right
      exact ⟨by omega, by omega⟩
    · left
      exact ⟨by omega, by omega⟩

/- What Solve returns. -/

def classM (E : List (List Edge)) (n v : Nat) : List Nat := (List.range n).filter fun w => decide (0 ≤ (distM E n [v]).getD w 0)

def bestStep (E : List (List Edge)) (n : Nat) (l : List Con) (M : Nat → List Nat) (b : Option (List Int) × Ty) (i : Int) : Option (List Int) × Ty :=
  match l[i.toNat]? with
  | none => b
  | some c =>
    ((match chainFrom E n (otherM l M i.toNat) i.toNat c.a.toNat with
      | none => b.1
      | some ch => (match b.1 with | none => some ch | some old => if ch.length < old.length then some ch else some old)),
     if c.tk ≠ 5 ∧ c.tk ≠ 6 then c.mark else b.2)

def marksOfClass (M : Nat → List Nat) (cl : List Nat) : List Int := ((cl.flatMap M).map fun x : Nat => (x : Int)).mergeSort fun x y => decide (x ≤ y)

def setAll {α : Type} (x : α) (l : List α) (cl : List Nat) : List α := cl.foldl (fun o v => o.set v x) l

structure SolveSt where
  out : List Ty
  chains : List (List Int)
  seen : List Bool

def solveStep (E : List (List Edge)) (n : Nat) (l : List Con) (M : Nat → List Nat) (st : SolveSt) (v : Nat) : SolveSt :=
  if st.seen.getD v false = true then st
  else
    match (marksOfClass M (classM E n v)).foldl (bestStep E n l M) (none, zeroTy) with
    | (some ch, _) => ⟨st.out, st.chains ++ [ch], setAll true st.seen (classM E n v)⟩
    | (none, t) => ⟨setAll t st.out (classM E n v), st.chains, setAll true st.seen (classM E n v)⟩

def solveUpto (l : List Con) (n k : Nat) : SolveSt := (List.range k).foldl (solveStep (edgesM l n l.length) n l (marksUpto l l.length)) ⟨List.replicate n zeroTy, [], List.replicate n false⟩

theorem solveUpto_succ (l : List Con) (n k : Nat) : solveUpto l n (k + 1) = solveStep (edgesM l n l.length) n l (marksUpto l l.length) (solveUpto l n k) k := by
  unfold solveUpto
  rw [List.range_succ, List.foldl_append]
  rfl

theorem setAll_len {α : Type} (x : α) (cl : List Nat) : ∀ l : List α, (setAll x l cl).length = l.length := by
  induction cl with
  | nil => exact fun _ => rfl
  | cons v cl ih => intro l; exact (ih _).trans (by simp)

end Go.Proofs.Ytpdimehoepfgaaa
