/- What the loops of Solve over the vertices hold: the class and its marks, the best chain, the types. -/
import Derived.Test.YtpdimehoepfgaaaOut
namespace Go.Proofs.Ytpdimehoepfgaaa
open Go.RowKit

section
variable {P : Program} (w : World)

/-- append of a slice that may be nil. -/
theorem run_append_Q (base : Nat) (t ty e : TypeId) (i : TypeInfo) (z : Value) (size bytes : Nat) (ht : P.underlying t = some (.slice e)) (hi : P.info? e = some i) (hz : i.zero = some z)
    (hsize : i.size = size) (hby : i.bytes = bytes) (hzs : z.cells.size = size) (hs0 : 0 < size)
    (v : Value) (n : Nat) (xs : List Value) (hown : OwnS w base e size v n xs)
    (A : Option Addr) (m c : Nat) (news : List Value) (hl : news.length = m * size) (hnews : ∀ j u, news[j]? = some u → ∃ a, A = some a ∧ w.cell? (a.add j) = some u) (h1 : ∀ u ∈ news, u.oneCell' = true)
    (h63 : n + m ≤ maxLen) (hbytes : (n + m) * bytes ≤ 140737488355328) (hbase : base ≤ w.heap.size) :
    ∃ v' w', (Builtin.append_ #[t, t] ty #[v, .slice A m c]).run P w = .ok v' w' ∧ OwnS w' base e size v' (n + m) (xs ++ news) ∧ w.grownBy w' v.ownBlock ∧
      (v'.ownBlock = v.ownBlock ∨ v'.ownBlock = some w.heap.size) := by
  cases A with
  | some a =>
    refine run_append_S w base t ty e i z size bytes ht hi hz hsize hby hzs v n xs hown a m c news hl (fun j u hu => ?_) h1 h63 hbytes hbase
    obtain ⟨a', ha, hc⟩ := hnews j u hu
    cases ha
    exact hc
  | none =>
    have hn : news = [] := by
      cases news with
      | nil => rfl
      | cons u us =>
        obtain ⟨a, ha, _⟩ := hnews 0 u rfl
        cases ha
    subst hn
    have hm : m = 0 := by
      rcases Nat.eq_zero_or_pos m with h | h
      · exact h
      · have := Nat.mul_pos h hs0
        simp at hl
        omega
    subst hm
    rcases hown.2 with ⟨rfl, rfl⟩ | ⟨g, off, cap, cur, rfl, hbg, hg, hnc, hcm, hcs, htake⟩
    · refine ⟨.slice none 0 0, w, ?_, by simpa using hown, ⟨rfl, rfl, rfl, Nat.le_refl _, fun _ _ _ => rfl⟩, .inl rfl⟩
      simp [Builtin.append_, run_underlying ht, sizeOf, typeInfo, hi, Builtin.lenOf, Builtin.firstCells]
    · refine ⟨.slice (some ⟨g, off, none⟩) n cap, w, ?_, by simpa using hown, ⟨rfl, rfl, rfl, Nat.le_refl _, fun _ _ _ => rfl⟩, .inl rfl⟩
      simp [Builtin.append_, run_underlying ht, sizeOf, typeInfo, hi, Builtin.lenOf, Builtin.firstCells, hnc, storeCells]

theorem step_append_Q {ops : Array Oper} {o : Oper} {a : Act} {K : Act → World → Prop} {Q : Exit → Act → World → Prop} {E : Prop} (hgd : o.guard = none) (s x : Operand) (t : TypeId)
    (ho : o.op = .call { callee := .builtin .append, args := #[s, x], argTypes := #[t, t] })
    (base : Nat) (e : TypeId) (i : TypeInfo) (z : Value) (size bytes : Nat) (ht : P.underlying t = some (.slice e)) (hi : P.info? e = some i) (hz : i.zero = some z)
    (hsize : i.size = size) (hby : i.bytes = bytes) (hzs : z.cells.size = size) (hs0 : 0 < size)
    (v : Value) (n : Nat) (xs : List Value) (hs : a.eval s = v) (hown : OwnS w base e size v n xs)
    (A : Option Addr) (m c : Nat) (news : List Value) (hx : a.eval x = .slice A m c) (hl : news.length = m * size) (hnews : ∀ j u, news[j]? = some u → ∃ a, A = some a ∧ w.cell? (a.add j) = some u) (h1 : ∀ u ∈ news, u.oneCell' = true)
    (h63 : n + m ≤ maxLen) (hbytes : (n + m) * bytes ≤ 140737488355328) (hbase : base ≤ w.heap.size)
    (h : ∀ v' w', OwnS w' base e size v' (n + m) (xs ++ news) → w.grownBy w' v.ownBlock → (v'.ownBlock = v.ownBlock ∨ v'.ownBlock = some w.heap.size) → K (a.put o.dst v') w') :
    if Region.wanted o (yielded ops a.tmps) = true then Oper.wp P o a w K Q else E := by
  have hw : Region.wanted o (yielded ops a.tmps) = true := by simp [Region.wanted, hgd]
  rw [if_pos hw]
  obtain ⟨v', w', hr, h2, h3, h4⟩ := run_append_Q (P := P) w base t o.type e i z size bytes ht hi hz hsize hby hzs hs0 v n xs hown A m c news hl hnews h1 h63 hbytes hbase
  unfold Oper.wp execOp
  simp only [ho, resolve, invoke, builtin, Sem.run_bind, Sem.run_pure, Result.andThen_ok, List.map_toArray, List.map_cons, List.map_nil, hs, hx, hr]
  exact h v' w' h2 h3 h4
end

def clsUpto (d : List Int) (q : Nat) : List Nat := (List.range q).filter fun w => decide (0 ≤ d.getD w 0)

theorem clsUpto_yes {d : List Int} {q : Nat} (h : 0 ≤ d.getD q 0) : clsUpto d (q + 1) = clsUpto d q ++ [q] := by
  unfold clsUpto
  rw [List.range_succ, List.filter_append]
  have : decide (0 ≤ d.getD q 0) = true := by simpa using h
  simp only [List.filter_cons, List.filter_nil, this, if_true]

theorem clsUpto_no {d : List Int} {q : Nat} (h : d.getD q 0 < 0) : clsUpto d (q + 1) = clsUpto d q := by
  unfold clsUpto
  rw [List.range_succ, List.filter_append]
  have : decide (0 ≤ d.getD q 0) = false := decide_eq_false (by omega)
  simp only [List.filter_cons, List.filter_nil, this, Bool.false_eq_true, if_false, List.append_nil]

theorem clsUpto_lt {d : List Int} {q : Nat} : ∀ u ∈ clsUpto d q, u < q := fun u hu => by
  have := (List.mem_filter.1 hu).1
  simpa using this

theorem clsUpto_len (d : List Int) (q : Nat) : (clsUpto d q).length ≤ q := by
  have := List.length_filter_le (fun w => decide (0 ≤ d.getD w 0)) (List.range q)
  simpa [clsUpto] using this

theorem flat_len (M : Nat → List Nat) (nl : Nat) (h : ∀ v, (M v).length ≤ nl) : ∀ cl : List Nat, (cl.flatMap M).length ≤ cl.length * nl := by
  intro cl
  induction cl with
  | nil => simp
  | cons v cl ih =>
    rw [List.flatMap_cons, List.length_append, List.length_cons, Nat.succ_mul]
    have := h v
    omega

/-- Loop 3: the vertices of the class so far, their marks, what was seen. -/
structure L3 (wd : World) (H2 : Nat) (seen0 : List Bool) (d : List Int) (M : Nat → List Nat) (q : Nat) (s15 s16 : Value) (wx : World) : Prop where
  cls : OwnS wx wd.heap.size 3 1 s15 (clsUpto d q).length (ivs ((clsUpto d q).map fun x : Nat => (x : Int)))
  mks : OwnS wx wd.heap.size 3 1 s16 ((clsUpto d q).flatMap M).length (ivs (((clsUpto d q).flatMap M).map fun x : Nat => (x : Int)))
  apart : ∀ g, s15.ownBlock = some g → s16.ownBlock ≠ some g
  seen : BoolsBlk wx H2 (setAll true seen0 (clsUpto d q))
  since : Since (fun g => g = H2) wd wx

theorem setAll_snoc {α : Type} (x : α) (l : List α) (cl : List Nat) (q : Nat) : setAll x l (cl ++ [q]) = (setAll x l cl).set q x := by
  unfold setAll
  rw [List.foldl_append]
  rfl

theorem L3.start {wd : World} {H2 : Nat} {seen0 : List Bool} (d : List Int) (M : Nat → List Nat) (h : BoolsBlk wd H2 seen0) : L3 wd H2 seen0 d M 0 (.slice none 0 0) (.slice none 0 0) wd :=
  ⟨OwnS.nil _ _ _ _, OwnS.nil _ _ _ _, fun g hg => (by cases hg), h, Since.refl _ _⟩

theorem L3.no {wd : World} {H2 : Nat} {seen0 : List Bool} {d : List Int} {M : Nat → List Nat} {q : Nat} {s15 s16 : Value} {wx : World} (h : L3 wd H2 seen0 d M q s15 s16 wx) (hd : d.getD q 0 < 0) : L3 wd H2 seen0 d M (q + 1) s15 s16 wx := by
  obtain ⟨h1, h2, h3, h4, h5⟩ := h
  constructor
  all_goals (try rw [clsUpto_no hd])
  all_goals assumption

theorem L3.yes {wd : World} {H2 : Nat} {seen0 : List Bool} {d : List Int} {M : Nat → List Nat} {q : Nat} {s15 s16 v1 v2 : Value} {wx wa w1 w2 : World} (h : L3 wd H2 seen0 d M q s15 s16 wx) (hd : 0 ≤ d.getD q 0) (hH : H2 < wd.heap.size)
    (hseen : BoolsBlk wa H2 ((setAll true seen0 (clsUpto d q)).set q true)) (hsince : Since (fun g => g = H2) wd wa) (hsz : wx.heap.size ≤ wa.heap.size)
    (hown1 : OwnS w1 wd.heap.size 3 1 v1 ((clsUpto d q).length + 1) (ivs ((clsUpto d q).map fun x : Nat => (x : Int)) ++ [.int .i64 (q : Int)])) (hg1 : wa.grownBy w1 s15.ownBlock) (hat1 : v1.ownBlock = s15.ownBlock ∨ v1.ownBlock = some wa.heap.size)
    (hown2 : OwnS w2 wd.heap.size 3 1 v2 (((clsUpto d q).flatMap M).length + (M q).length) (ivs (((clsUpto d q).flatMap M).map fun x : Nat => (x : Int)) ++ ivs ((M q).map fun x : Nat => (x : Int)))) (hg2 : w1.grownBy w2 s16.ownBlock) (hat2 : v2.ownBlock = s16.ownBlock ∨ v2.ownBlock = some w1.heap.size) :
    L3 wd H2 seen0 d M (q + 1) v1 v2 w2 := by
  have l15 := fun g hg => h.cls.lt g hg
  have l16 := fun g hg => h.mks.lt g hg
  have hz1 := hg1.size
  have hv1 : v1.ownBlock = none ∨ v1.ownBlock ≠ s16.ownBlock := by
    cases hv : v1.ownBlock with
    | none => exact .inl rfl
    | some g =>
      refine .inr fun e1 => ?_
      rcases hat1 with h1 | h1
      · exact h.apart g (by rw [← h1, hv]) e1.symm
      · rw [hv] at h1
        have := (l16 g e1.symm).2
        have : g = wa.heap.size := by injection h1
        omega
  refine ⟨?_, ?_, fun g hg e1 => ?_, ?_, ?_⟩
  · rw [clsUpto_yes hd]
    have := hown1.kept hg2 hv1
    simpa [ivs] using this
  · rw [clsUpto_yes hd, List.flatMap_append]
    simpa [ivs] using hown2
  · rcases hat2 with h2 | h2
    · rcases hv1 with h3 | h3
      · rw [h3] at hg; cases hg
      · exact h3 (by rw [hg, ← h2, e1])
    · have e3 : g = w1.heap.size := by
        rw [e1] at h2
        injection h2
      have := (hown1.lt g hg).2
      omega
  · rw [clsUpto_yes hd, setAll_snoc]
    have h1 : Blk w1 H2 _ _ := Blk.grown hseen hg1 (fun e1 => by have := (l15 H2 e1.symm).1; omega)
    exact h1.grown hg2 (fun e1 => by have := (l16 H2 e1.symm).1; omega)
  · exact (hsince.grown hg1 (fun k hk => .inr (l15 k hk).1)).grown hg2 (fun k hk => .inr (l16 k hk).1)

theorem RowAt.news {w : World} {B : Nat} {A : Option Addr} {l : List Nat} (h : RowAt 1 natCells w B A l) : ∀ j u, (ivs (l.map fun x : Nat => (x : Int)))[j]? = some u → ∃ a, A = some a ∧ w.cell? (a.add j) = some u := by
  intro j u hu
  rw [List.getElem?_map, List.getElem?_map] at hu
  cases hx : l[j]? with
  | none => rw [hx] at hu; cases hu
  | some z =>
    rw [hx] at hu
    obtain ⟨b, off, hA, _, hc⟩ := h j z hx
    refine ⟨_, hA, ?_⟩
    have := hc 0 _ rfl
    rw [Addr.add_lit]
    simp at hu
    subst hu
    simpa using this

theorem ivs_one (l : List Nat) : ∀ u ∈ ivs (l.map fun x : Nat => (x : Int)), u.oneCell' = true := by
  intro u hu
  obtain ⟨z, _, rfl⟩ := List.mem_map.1 hu
  rfl

/-- Loop 4: the best chain so far. -/
def BestAt (wx : World) (base : Nat) (b : Option (List Int)) (s : Value) : Prop :=
  match b with
  | none => s = .slice none 0 0
  | some ch => ch ≠ [] ∧ OwnS wx base 3 1 s ch.length (ivs ch)

theorem BestAt.none {wx : World} {base : Nat} : BestAt wx base none (.slice none 0 0) := rfl

theorem BestAt.keep {wx wy : World} {base : Nat} {b : Option (List Int)} {s : Value} (h : BestAt wx base b s) (hk : ∀ g, base ≤ g → g < wx.heap.size → wy.heap[g]? = wx.heap[g]?) : BestAt wy base b s := by
  cases b with
  | none => exact h
  | some ch => exact ⟨h.1, h.2.of_block fun g hg => hk g (h.2.lt g hg).1 (h.2.lt g hg).2⟩

def tyVals (t : Ty) : Array Value := #[.int .i64 t.k, .int .i64 t.n, .string t.r]

theorem chainFrom_ne (E : List (List Edge)) (n : Nat) (other : Nat → Option Nat) (i s0 : Nat) (ch : List Int) (h : chainFrom E n other i s0 = some ch) : ch ≠ [] := by
  unfold chainFrom at h
  split at h
  · cases h
  · simp only [Option.some.injEq] at h
    subst h
    simp

theorem solveStep_len (E : List (List Edge)) (n : Nat) (l : List Con) (M : Nat → List Nat) (st : SolveSt) (v : Nat) :
    (solveStep E n l M st v).out.length = st.out.length ∧ (solveStep E n l M st v).seen.length = st.seen.length ∧ (solveStep E n l M st v).chains.length ≤ st.chains.length + 1 := by
  unfold solveStep
  split
  · exact ⟨rfl, rfl, by omega⟩
  · split
    · exact ⟨rfl, setAll_len _ _ _, by simp⟩
    · exact ⟨setAll_len _ _ _, setAll_len _ _ _, by simp⟩

theorem solveUpto_len (l : List Con) (n k : Nat) : (solveUpto l n k).out.length = n ∧ (solveUpto l n k).seen.length = n ∧ (solveUpto l n k).chains.length ≤ k := by
  induction k with
  | zero => exact ⟨by simp [solveUpto], by simp [solveUpto], by simp [solveUpto]⟩
  | succ k ih =>
    rw [solveUpto_succ]
    have h := solveStep_len (edgesM l n l.length) n l (marksUpto l l.length) (solveUpto l n k) k
    omega

theorem solveStep_seen {E : List (List Edge)} {n : Nat} {l : List Con} {M : Nat → List Nat} {st : SolveSt} {v : Nat} (h : st.seen.getD v false = true) : solveStep E n l M st v = st := by
  unfold solveStep
  rw [if_pos h]

theorem solveStep_chain {E : List (List Edge)} {n : Nat} {l : List Con} {M : Nat → List Nat} {st : SolveSt} {v : Nat} (h : st.seen.getD v false = false) {ch : List Int} {t : Ty}
    (hb : (marksOfClass M (classM E n v)).foldl (bestStep E n l M) (none, zeroTy) = (some ch, t)) : solveStep E n l M st v = ⟨st.out, st.chains ++ [ch], setAll true st.seen (classM E n v)⟩ := by
  unfold solveStep
  rw [if_neg (by rw [h]; decide), hb]

theorem solveStep_type {E : List (List Edge)} {n : Nat} {l : List Con} {M : Nat → List Nat} {st : SolveSt} {v : Nat} (h : st.seen.getD v false = false) {t : Ty}
    (hb : (marksOfClass M (classM E n v)).foldl (bestStep E n l M) (none, zeroTy) = (none, t)) : solveStep E n l M st v = ⟨setAll t st.out (classM E n v), st.chains, setAll true st.seen (classM E n v)⟩ := by
  unfold solveStep
  rw [if_neg (by rw [h]; decide), hb]

theorem Since.step {S S' : Nat → Prop} {a b c : World} (h : Since S a b) (k : Since S' b c) (hS : ∀ g, S' g → S g ∨ a.heap.size ≤ g) : Since S a c :=
  ⟨k.os.trans h.os, k.tape.trans h.tape, k.output.trans h.output, Nat.le_trans h.size k.size, fun i hi hs => (k.block i (Nat.lt_of_lt_of_le hi h.size) (fun h1 => by
    rcases hS i h1 with h2 | h2
    · exact hs h2
    · omega)).trans (h.block i hi hs)⟩

theorem Blk.set3 {w : World} {g : Nat} {t : TypeId} {a b c : Value} (h : Blk w g t #[a, b, c]) (x y z : Value) : Blk (((w.setCell ⟨g, 0, none⟩ x).setCell ⟨g, 1, none⟩ y).setCell ⟨g, 2, none⟩ z) g t #[x, y, z] := by
  have := ((h.set_ 0 x).set_ 1 y).set_ 2 z
  simpa using this

theorem flat_get (l : List Ty) : ∀ (u : Nat) (x : Ty), l[u]? = some x → (l.flatMap tyCells)[u * 3]? = some (.int .i64 x.k) ∧ (l.flatMap tyCells)[u * 3 + 1]? = some (.int .i64 x.n) ∧ (l.flatMap tyCells)[u * 3 + 2]? = some (.string x.r) := by
  induction l with
  | nil => intro u x h; simp at h
  | cons y l ih =>
    intro u x h
    cases u with
    | zero => simp at h; subst h; simp [tyCells]
    | succ u =>
      have := ih u x (by simpa using h)
      rw [List.flatMap_cons, show (u + 1) * 3 = u * 3 + 3 by omega]
      simpa [tyCells] using this

theorem TysBlk.cells {w : World} {g : Nat} {l : List Ty} (h : TysBlk w g l) {u : Nat} (hu : u < l.length) : ∃ x : Ty, w.cell? ⟨g, u * 3, none⟩ = some (.int .i64 x.k) ∧ w.cell? ⟨g, u * 3 + 1, none⟩ = some (.int .i64 x.n) ∧ w.cell? ⟨g, u * 3 + 2, none⟩ = some (.string x.r) := by
  obtain ⟨h1, h2, h3⟩ := flat_get l u l[u] (List.getElem?_eq_getElem hu)
  exact ⟨l[u], by rw [Blk.cell h]; simpa using h1, by rw [Blk.cell h]; simpa using h2, by rw [Blk.cell h]; simpa using h3⟩

def pickBest (b : Option (List Int)) (r : Option (List Int)) : Option (List Int) :=
  match r with
  | none => b
  | some ch => (match b with | none => some ch | some old => if ch.length < old.length then some ch else some old)

theorem bestStep_eq {E : List (List Edge)} {n : Nat} {l : List Con} {M : Nat → List Nat} {b : Option (List Int) × Ty} {i s0 : Nat} {c : Con} (hc : l[i]? = some c) (ha : c.a = (s0 : Int)) :
    bestStep E n l M b (i : Int) = (pickBest b.1 (chainFrom E n (otherM l M i) i s0), if c.tk ≠ 5 ∧ c.tk ≠ 6 then c.mark else b.2) := by
  have h1 : ((i : Int)).toNat = i := Int.toNat_natCast i
  unfold bestStep
  rw [h1, hc]
  simp only [ha, Int.toNat_natCast]
  rfl

theorem run_eql_nil0 (w : World) : (binOp .eql 33 (.slice none 0 0) (.slice none 0 0)).run Try.prog w = .ok (.bool true) w :=
  Lib.run_eql_slice_nil w 33 3 none 0 0 0 0 Try.underlying33
theorem run_neq_nil0 (w : World) : (binOp .neq 33 (.slice none 0 0) (.slice none 0 0)).run Try.prog w = .ok (.bool false) w := by
  simp only [binOp]
  simp [Op.equal, Op.maxDepth, Lib.run_equalIn_slice_nil w 9999 33 3 none 0 0 0 0 Try.underlying33]
theorem run_neq_nil (w : World) (b off n c : Nat) : (binOp .neq 33 (.slice (some ⟨b, off, none⟩) n c) (.slice none 0 0)).run Try.prog w = .ok (.bool true) w := by
  simp only [binOp]
  simp [Op.equal, Op.maxDepth, Lib.run_equalIn_slice_nil w 9999 33 3 (some ⟨b, off, none⟩) n c 0 0 Try.underlying33]

theorem ints_info : (Try.prog.info? 33).map (fun i => (i.zero, i.size, i.bytes)) = some (some (.slice none 0 0), 1, 24) := by kernel_rfl

/-- The marks of a class are indices of marks. -/
theorem marks_mem {M : Nat → List Nat} {cl : List Nat} {z : Int} (h : z ∈ marksOfClass M cl) : ∃ i v : Nat, z = (i : Int) ∧ v ∈ cl ∧ i ∈ M v := by
  unfold marksOfClass at h
  rw [List.mem_mergeSort, List.mem_map] at h
  obtain ⟨i, hi, rfl⟩ := h
  obtain ⟨v, hv, hm⟩ := List.mem_flatMap.1 hi
  exact ⟨i, v, rfl, hv, hm⟩

end Go.Proofs.Ytpdimehoepfgaaa
