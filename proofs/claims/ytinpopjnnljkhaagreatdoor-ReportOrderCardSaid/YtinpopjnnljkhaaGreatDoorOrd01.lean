/- ReportOrder: the law returns true for every source and every diagnostics. Part 1 of 17. -/
import Derived.Test.YtinpopjnnljkhaaGreatDoorProg
import Derived.WalkKit
import Derived.WalkSpells
import Derived.WalkLawsBesides
import Derived.Deep.QuietTactic
import Derived.BigQuiet
import Derived.Lib.Hide
import Derived.Deep.AppendSrc
import Derived.Deep.AppendLies
import Derived.Deep.Draws
import Derived.Deep.Upon
import Derived.Deep.LoopGhost
import Derived.Deep.RegionHeld3
import Derived.Deep.RegionLaw
import Derived.Deep.DeepCutAuto
import Derived.Deep.DeepFit
import Derived.BigRegion
import Derived.StillTailTactics
import Derived.Maps.Own
import Derived.StillTail
import Derived.Lib.Strings
import Derived.Lib.SliceRun
import Derived.Deep.DeepMust
import Derived.Shelf.Strings.OnBuilder
import Derived.Shelf.Small.Wraps
import Derived.Shelf.Strings.Count
import Derived.Shelf.Sort.Plain
import Derived.Shelf.Strings.Prefix
import Derived.Shelf.Strings.Repeat
import Derived.Shelf.Slices.In.SortNone
/- The base: bools, old cells. -/
namespace Go.Proofs.YtinpopjnnljkhaaGreatDoor
open Go.RowKit

theorem ret_bool {a b : Bool} (h : a = b) : Ending.returned (.bool a) = .returned (.bool b) := by rw [h]
theorem ret_int {k : IntKind} {a b : Int} (h : a = b) : Ending.returned (.int k a) = .returned (.int k b) := by rw [h]

theorem bcell {W w1 : World} (hb : Below W.heap.size W w1) : (∀ b o, b < W.heap.size → w1.cell? ⟨b, o, none⟩ = W.cell? ⟨b, o, none⟩) ∧ (∀ b o, b < W.heap.size → w1.frozen? ⟨b, o, none⟩ = W.frozen? ⟨b, o, none⟩) :=
  ⟨fun b o h => hb.cell (p := ⟨b, o, none⟩) h, fun b o h => hb.frozen (p := ⟨b, o, none⟩) h⟩
theorem below_drewN {B : Nat} {a w : World} (h : Below B a w) (n : Nat) : Below B a (w.drewN n) := ⟨h.os, h.tape, h.output, h.size, h.block⟩

end Go.Proofs.YtinpopjnnljkhaaGreatDoor
/- Words for memory: rows that are read through a slice value; slices of the call's own, wherever they begin in their block; append to them. No program is named here. -/
namespace Go.Proofs.YtinpopjnnljkhaaGreatDoor
open Go.RowKit

/-- The rows 'cells c', c in l, are read through a slice at A, all of them in blocks below B. -/
def RowAt {α : Type} (size : Nat) (cells : α → List Value) (w : World) (B : Nat) (A : Option Addr) (l : List α) : Prop :=
  ∀ k c, l[k]? = some c → ∃ b off, A = some ⟨b, off, none⟩ ∧ b < B ∧ ∀ j v, (cells c)[j]? = some v → w.cell? ⟨b, off + k * size + j, none⟩ = some v

theorem RowAt.below {α : Type} {size : Nat} {cells : α → List Value} {w w' : World} {B B' : Nat} {A : Option Addr} {l : List α} (h : RowAt size cells w B A l) (hb : Below B' w w') (hB : B ≤ B') :
    RowAt size cells w' B A l := by
  intro k c hk
  obtain ⟨b, off, hA, hlt, hc⟩ := h k c hk
  exact ⟨b, off, hA, hlt, fun j v hj => (hb.cell (p := ⟨b, _, none⟩) (by show b < B'; omega)).trans (hc j v hj)⟩

theorem RowAt.mono {α : Type} {size : Nat} {cells : α → List Value} {w : World} {B B' : Nat} {A : Option Addr} {l : List α} (h : RowAt size cells w B A l) (hB : B ≤ B') : RowAt size cells w B' A l := by
  intro k c hk
  obtain ⟨b, off, hA, hlt, hc⟩ := h k c hk
  exact ⟨b, off, hA, by omega, hc⟩

/-- Block g is just the cells cs, none frozen. -/
def Blk (w : World) (g : Nat) (t : TypeId) (cs : Array Value) : Prop := w.heap[g]? = some (.cells cs t (0, 0))

section
variable {w w' : World} {g : Nat} {t : TypeId} {cs : Array Value}
theorem Blk.lt (h : Blk w g t cs) : g < w.heap.size := (Array.getElem?_eq_some_iff.1 h).1
theorem Blk.cell (h : Blk w g t cs) (i : Nat) : w.cell? ⟨g, i, none⟩ = cs[i]? := cell_of_row w g i cs t (0, 0) h
theorem Blk.frozen (h : Blk w g t cs) (i : Nat) : w.frozen? ⟨g, i, none⟩ = false := by
  unfold Blk at h
  simp [World.frozen?, h]
theorem Blk.keep (h : Blk w g t cs) (hk : w'.heap[g]? = w.heap[g]?) : Blk w' g t cs := hk.trans h
theorem Blk.new (w : World) (t : TypeId) (cs : Array Value) : Blk (w.alloc (.cells cs t)) w.heap.size t cs := heap_alloc_new w _
theorem Blk.drew (h : Blk w g t cs) : Blk w.drew g t cs := h
theorem Blk.drewN (h : Blk w g t cs) (n : Nat) : Blk (w.drewN n) g t cs := h
theorem Blk.alloc (h : Blk w g t cs) (o : Obj) : Blk (w.alloc o) g t cs := h.keep (Below.heap_alloc w o g h.lt)
theorem Blk.set_ (h : Blk w g t cs) (i : Nat) (u : Value) : Blk (w.setCell ⟨g, i, none⟩ u) g t (cs.setIfInBounds i u) := by
  unfold Blk at h ⊢
  simp [World.setCell, Array.getElem?_modify, h]
theorem Blk.set2 {a b : Value} (h : Blk w g t #[a, b]) (x y : Value) : Blk ((w.setCell ⟨g, 0, none⟩ x).setCell ⟨g, 1, none⟩ y) g t #[x, y] := by
  have := (h.set_ 0 x).set_ 1 y
  simpa using this
theorem Blk.far (h : Blk w g t cs) {p : Addr} (hp : g ≠ p.block) (u : Value) : Blk (w.setCell p u) g t cs := h.keep (Below.heap_setCell w p u g hp)
theorem Blk.below {B : Nat} (h : Blk w g t cs) (hb : Below B w w') (hg : g < B) : Blk w' g t cs := h.keep (hb.block g hg)
theorem Blk.grown {row : Option Nat} (h : Blk w g t cs) (hb : w.grownBy w' row) (hg : some g ≠ row) : Blk w' g t cs := h.keep (hb.block g h.lt hg)
end

/-- A slice of the call's own: nil, or a stretch of a block from 'base' on. -/
def OwnS (w : World) (base : Nat) (e : TypeId) (size : Nat) (v : Value) (n : Nat) (xs : List Value) : Prop :=
  xs.length = n * size ∧ ((v = .slice none 0 0 ∧ n = 0) ∨
    ∃ g off cap cur, v = .slice (some ⟨g, off, none⟩) n cap ∧ base ≤ g ∧ w.heap[g]? = some (.cells cur e (0, 0)) ∧ n ≤ cap ∧ cap ≤ maxLen ∧ off + cap * size ≤ cur.size ∧ (cur.toList.drop off).take (n * size) = xs)

section
variable {w w' : World} {base : Nat} {e : TypeId} {size : Nat} {v : Value} {n : Nat} {xs : List Value}

theorem OwnS.nil (w : World) (base : Nat) (e : TypeId) (size : Nat) : OwnS w base e size (.slice none 0 0) 0 [] := ⟨by simp, .inl ⟨rfl, rfl⟩⟩

theorem OwnS.of_row (h : w.ownsRow base e size v n xs) : OwnS w base e size v n xs := by
  refine ⟨h.1, ?_⟩
  rcases h.2 with h0 | ⟨g, cap, cur, hv, hb, hg, hn, hm, hs, ht⟩
  · exact .inl h0
  · exact .inr ⟨g, 0, cap, cur, hv, hb, hg, hn, hm, by omega, by simpa using ht⟩

/-- A block of the call's own, seen whole. -/
theorem OwnS.block {g : Nat} {cur : Array Value} {n : Nat} (hb : base ≤ g) (hg : w.heap[g]? = some (.cells cur e (0, 0))) (hm : n ≤ maxLen) (hs : cur.size = n * size) : OwnS w base e size (.slice (some ⟨g, 0, none⟩) n n) n cur.toList :=
  ⟨by simpa using hs, .inr ⟨g, 0, n, cur, rfl, hb, hg, Nat.le_refl _, hm, by omega, by rw [List.drop_zero, List.take_of_length_le (by simp; omega)]⟩⟩

theorem OwnS.lt (h : OwnS w base e size v n xs) : ∀ k, v.ownBlock = some k → base ≤ k ∧ k < w.heap.size := by
  intro k hk
  rcases h.2 with ⟨rfl, _⟩ | ⟨g, off, cap, cur, rfl, hb, hg, _⟩
  · simp [Value.ownBlock] at hk
  · simp [Value.ownBlock] at hk
    subst hk
    exact ⟨hb, (Array.getElem?_eq_some_iff.1 hg).1⟩

theorem OwnS.form (h : OwnS w base e size v n xs) (hn : 0 < n) : ∃ g off cap, v = .slice (some ⟨g, off, none⟩) n cap ∧ n ≤ cap ∧ cap ≤ maxLen ∧ base ≤ g ∧ g < w.heap.size ∧ ∀ j u, xs[j]? = some u → w.cell? ⟨g, off + j, none⟩ = some u := by
  rcases h.2 with ⟨_, h0⟩ | ⟨g, off, cap, cur, hv, hb, hg, hn, hm, hs, ht⟩
  · omega
  · refine ⟨g, off, cap, hv, hn, hm, hb, (Array.getElem?_eq_some_iff.1 hg).1, fun j u hu => ?_⟩
    rw [cell_of_row w g (off + j) cur e (0, 0) hg]
    rw [← ht, List.getElem?_take] at hu
    split at hu
    · rw [List.getElem?_drop] at hu
      simpa using hu
    · cases hu

theorem OwnS.shape (h : OwnS w base e size v n xs) : ∃ A c, v = .slice A n c ∧ n ≤ c ∧ c ≤ maxLen := by
  rcases h.2 with ⟨rfl, rfl⟩ | ⟨g, off, cap, cur, hv, hb, hg, hn, hm, hs, ht⟩
  · exact ⟨none, 0, rfl, Nat.le_refl _, by simp [maxLen]⟩
  · exact ⟨_, _, hv, hn, hm⟩

theorem OwnS.of_block (h : OwnS w base e size v n xs) (hk : ∀ g, v.ownBlock = some g → w'.heap[g]? = w.heap[g]?) : OwnS w' base e size v n xs := by
  refine ⟨h.1, ?_⟩
  rcases h.2 with h0 | ⟨g, off, cap, cur, hv, hb, hg, rest⟩
  · exact .inl h0
  · exact .inr ⟨g, off, cap, cur, hv, hb, (hk g (by rw [hv]; rfl)).trans hg, rest⟩

theorem OwnS.kept {row : Option Nat} (h : OwnS w base e size v n xs) (hg : w.grownBy w' row) (hne : v.ownBlock = none ∨ v.ownBlock ≠ row) : OwnS w' base e size v n xs :=
  h.of_block fun g hv => hg.block g (h.lt g hv).2 (by rcases hne with h0 | h0 <;> simp_all)

theorem OwnS.below {B : Nat} (h : OwnS w base e size v n xs) (hb : Below B w w') (hlt : ∀ g, v.ownBlock = some g → g < B) : OwnS w' base e size v n xs :=
  h.of_block fun g hv => hb.block g (hlt g hv)

theorem OwnS.alloc (h : OwnS w base e size v n xs) (o : Obj) : OwnS (w.alloc o) base e size v n xs :=
  h.of_block fun g hv => Below.heap_alloc w o g (h.lt g hv).2

theorem OwnS.drew (h : OwnS w base e size v n xs) : OwnS w.drew base e size v n xs := h
theorem OwnS.drewN (h : OwnS w base e size v n xs) (k : Nat) : OwnS (w.drewN k) base e size v n xs := h

theorem OwnS.setCell (h : OwnS w base e size v n xs) {p : Addr} (hp : v.ownBlock ≠ some p.block) (u : Value) : OwnS (w.setCell p u) base e size v n xs :=
  h.of_block fun g hv => Below.heap_setCell w p u g (fun e1 => hp (by rw [hv, e1]))

theorem OwnS.mono {base' : Nat} (h : OwnS w base e size v n xs) (hb : base' ≤ base) : OwnS w base' e size v n xs := by
  refine ⟨h.1, ?_⟩
  rcases h.2 with h0 | ⟨g, off, cap, cur, hv, hb', rest⟩
  · exact .inl h0
  · exact .inr ⟨g, off, cap, cur, hv, by omega, rest⟩

/-- Nothing is written: its elements stand in blocks below the heap's size. -/
theorem OwnS.rowAt {α : Type} {cells : α → List Value} {l : List α} (h : OwnS w base e size v n xs) {A : Option Addr} {c : Nat} (hv : v = .slice A n c) (hxs : xs = l.flatMap cells) (hl : ∀ c ∈ l, (cells c).length = size) (hn : l.length = n) :
    RowAt size cells w w.heap.size A l := by
  intro k x hk
  have hkn : k < n := by rw [← hn]; exact (List.getElem?_eq_some_iff.1 hk).1
  obtain ⟨g, off, cap, hv', _, _, _, hlt, hc⟩ := h.form (by omega)
  rw [hv] at hv'
  cases hv'
  refine ⟨g, off, rfl, hlt, fun j u hj => ?_⟩
  rw [Nat.add_assoc]
  refine hc _ _ ?_
  subst hxs
  clear h hv hlt hc hkn hn
  induction l generalizing k with
  | nil => simp at hk
  | cons y ys ih =>
    have hy := hl y (by simp)
    have hjs : j < (cells x).length := (List.getElem?_eq_some_iff.1 hj).1
    rw [List.flatMap_cons]
    cases k with
    | zero =>
      simp at hk
      subst hk
      rw [List.getElem?_append_left (by omega), ← hj]
      simp
    | succ k =>
      rw [List.getElem?_append_right (by rw [hy, Nat.succ_mul]; omega), hy]
      have := ih (fun c hc => hl c (by simp [hc])) k (by simpa using hk)
      rw [← this]
      congr 1
      rw [Nat.succ_mul]
      omega
end

section
variable {P : Program} (w : World)

theorem run_append_room_off (t ty e : TypeId) (i : TypeInfo) (ht : P.underlying t = some (.slice e)) (hi : P.info? e = some i)
    (g off sLen sCap : Nat) (cur : Array Value) (hg : w.heap[g]? = some (.cells cur e (0, 0)))
    (a : Addr) (m c : Nat) (news : List Value) (hl : news.length = m * i.size) (hnews : ∀ j u, news[j]? = some u → w.cell? (a.add j) = some u) (h1 : ∀ u ∈ news, u.oneCell' = true)
    (hroom : sLen + m ≤ sCap) (hfit : off + sLen * i.size + news.length ≤ cur.size) :
    (Builtin.append_ #[t, t] ty #[.slice (some ⟨g, off, none⟩) sLen sCap, .slice (some a) m c]).run P w =
      .ok (.slice (some ⟨g, off, none⟩) (sLen + m) sCap) (w.setRow g (cur.toList.take (off + sLen * i.size) ++ news ++ cur.toList.drop (off + sLen * i.size + news.length)).toArray) := by
  have hf := run_firstCells_some (P := P) w i.size m a m c news hl hnews
  have hst := run_storeCells_at P g (off + sLen * i.size) e news 0 cur w hg (by simpa using hfit) h1
  simp only [Nat.add_zero] at hst
  simp [Builtin.append_, run_underlying ht, sizeOf, typeInfo, hi, Builtin.lenOf, hroom, hf, Addr.add_lit, hst]

theorem run_slice_from (t e : TypeId) (i : TypeInfo) (ht : P.underlying t = some (.slice e)) (hi : P.info? e = some i) (a : Option Addr) (len cap k : Nat) (hk : k ≤ len) :
    (Instr.slice t (.slice a len cap) (some (.int .i64 (k : Int))) none none).run P w = .ok (.slice (if cap = k then a else a.map (·.add (k * i.size))) (len - k) (cap - k)) w := by
  have h : ¬ len < k := by omega
  simp [Instr.slice, run_underlying ht, Instr.sliceBounds, Instr.sliceBound, asIntOf, sizeOf, typeInfo, hi]
  exact fun h' => absurd h' h

/-- append to a slice of the call's own, wherever it begins: the new one owns the cells and the new ones; only its old block and new ones have turned. -/
theorem run_append_S (base : Nat) (t ty e : TypeId) (i : TypeInfo) (z : Value) (size bytes : Nat) (ht : P.underlying t = some (.slice e)) (hi : P.info? e = some i) (hz : i.zero = some z)
    (hsize : i.size = size) (hby : i.bytes = bytes) (hzs : z.cells.size = size)
    (v : Value) (n : Nat) (xs : List Value) (hown : OwnS w base e size v n xs)
    (a : Addr) (m c : Nat) (news : List Value) (hl : news.length = m * size) (hnews : ∀ j u, news[j]? = some u → w.cell? (a.add j) = some u) (h1 : ∀ u ∈ news, u.oneCell' = true)
    (h63 : n + m ≤ maxLen) (hbytes : (n + m) * bytes ≤ 140737488355328) (hbase : base ≤ w.heap.size) :
    ∃ v' w', (Builtin.append_ #[t, t] ty #[v, .slice (some a) m c]).run P w = .ok v' w' ∧ OwnS w' base e size v' (n + m) (xs ++ news) ∧ w.grownBy w' v.ownBlock ∧
      (v'.ownBlock = v.ownBlock ∨ v'.ownBlock = some w.heap.size) := by
  subst hsize
  subst hby
  have hsmall : n + m ≤ 9223372036854775807 := by simp only [maxLen] at h63; omega
  have hlen : (xs ++ news).length = (n + m) * i.size := by rw [List.length_append, hown.1, hl, Nat.add_mul]
  have grown : ∀ (old : Nat), old < n + m → ∀ (row : Option Nat),
      OwnS (w.drew.alloc (.cells (xs.toArray ++ news.toArray ++ Builtin.zeroCells z.cells (grownCap w (n + m) old e - (n + m))) e)) base e i.size
        (.slice (some ⟨w.heap.size, 0, none⟩) (n + m) (grownCap w (n + m) old e)) (n + m) (xs ++ news) ∧
      w.grownBy (w.drew.alloc (.cells (xs.toArray ++ news.toArray ++ Builtin.zeroCells z.cells (grownCap w (n + m) old e - (n + m))) e)) row := by
    intro old ho row
    have hge := grownCap_ge w (n + m) old e
    have hcm : grownCap w (n + m) old e ≤ maxLen := grownCap_le_maxLen w (n + m) old e h63
    refine ⟨⟨hlen, .inr ⟨w.heap.size, 0, _, _, rfl, hbase, heap_alloc_new w.drew _, hge, hcm, ?_, ?_⟩⟩, ⟨rfl, rfl, rfl, by simp, fun k hk _ => Below.heap_alloc w.drew _ k hk⟩⟩
    · simp only [Array.size_append, List.size_toArray, size_zeroCells, hzs, hown.1, hl, ← Nat.add_mul]
      rw [Nat.zero_add]
      exact Nat.mul_le_mul_right _ (by omega)
    · simp only [Array.toList_append, List.append_assoc, List.drop_zero]
      rw [← List.append_assoc, ← hlen]
      exact List.take_left
  rcases hown.2 with ⟨rfl, rfl⟩ | ⟨g, off, cap, cur, rfl, hbg, hg, hnc, hcm, hcs, htake⟩
  · have hx : xs = [] := List.eq_nil_of_length_eq_zero (by simpa using hown.1)
    subst hx
    by_cases hm : m = 0
    · subst hm
      have hn : news = [] := List.eq_nil_of_length_eq_zero (by simpa using hl)
      subst hn
      refine ⟨.slice none 0 0, w, ?_, OwnS.nil w base e i.size, ⟨rfl, rfl, rfl, Nat.le_refl _, fun _ _ _ => rfl⟩, .inl rfl⟩
      simp [Builtin.append_, run_underlying ht, sizeOf, typeInfo, hi, Builtin.lenOf, Builtin.firstCells, loadCells, loadCellsFrom]
    · have hr := run_append_nil (P := P) w t ty e i z ht hi hz a m c news hl hnews (by omega) (by omega) (by have hb := hbytes; simp only [Nat.zero_add] at hb; omega)
      have hgr := grown 0 (by omega) (Value.ownBlock (.slice none 0 0))
      simp only [Nat.zero_add, List.nil_append, Array.empty_append] at hgr ⊢
      exact ⟨_, _, hr, hgr.1, hgr.2, .inr rfl⟩
  · by_cases hroom : n + m ≤ cap
    · have hfit : off + n * i.size + news.length ≤ cur.size := by
        rw [hl]
        have h2 : (n + m) * i.size ≤ cap * i.size := Nat.mul_le_mul_right _ hroom
        rw [Nat.add_mul] at h2
        omega
      have hr := run_append_room_off (P := P) w t ty e i ht hi g off n cap cur hg a m c news hl hnews h1 hroom hfit
      refine ⟨_, _, hr, ⟨hlen, .inr ⟨g, off, cap, _, rfl, hbg, setRow_heap w g cur _ e _ hg, hroom, hcm, ?_, ?_⟩⟩, ⟨rfl, rfl, rfl, by simp, fun k _ hk => setRow_other w g k _ (fun e => hk (by simp [Value.ownBlock, e]))⟩, .inl rfl⟩
      · simp only [List.size_toArray, List.length_append, List.length_take, List.length_drop, Array.length_toList]
        omega
      · rw [← htake, Nat.add_mul, ← hl]
        have hoff : off ≤ (cur.toList.take (off + n * i.size)).length := by simp; omega
        rw [List.append_assoc, List.drop_append_of_le_length hoff, List.drop_take, Nat.add_sub_cancel_left]
        have hk : (List.take (n * i.size) (List.drop off cur.toList)).length = n * i.size := by simp; omega
        rw [← List.append_assoc]
        exact List.take_left' (by rw [List.length_append, hk])
    · have holds : ∀ j u, xs[j]? = some u → w.cell? ((⟨g, off, none⟩ : Addr).add j) = some u := by
        intro j u hu
        have hjn : j < n * i.size := by rw [← hown.1]; exact (List.getElem?_eq_some_iff.1 hu).1
        have hn0 : 0 < n := Nat.pos_of_ne_zero (by rintro rfl; simp at hjn)
        obtain ⟨g', off', cap', hv', _, _, _, _, hc⟩ := hown.form hn0
        cases hv'
        rw [Addr.add_lit]
        exact hc j u hu
      have hr := run_append_grow (P := P) w t ty e i z ht hi hz ⟨g, off, none⟩ n cap xs hown.1 holds a m c news hl hnews (by omega) (by omega) (growslice_fits (by omega) hbytes)
      have hgr := grown cap (by omega) (Value.ownBlock (.slice (some ⟨g, off, none⟩) n cap))
      exact ⟨_, _, hr, hgr.1, hgr.2, .inr rfl⟩

theorem wp_append_S {o : Oper} {a : Act} {K : Act → World → Prop} {Q : Exit → Act → World → Prop} (s x : Operand) (t : TypeId)
    (ho : o.op = .call { callee := .builtin .append, args := #[s, x], argTypes := #[t, t] })
    (base : Nat) (e : TypeId) (i : TypeInfo) (z : Value) (size bytes : Nat) (ht : P.underlying t = some (.slice e)) (hi : P.info? e = some i) (hz : i.zero = some z)
    (hsize : i.size = size) (hby : i.bytes = bytes) (hzs : z.cells.size = size)
    (v : Value) (n : Nat) (xs : List Value) (hs : a.eval s = v) (hown : OwnS w base e size v n xs)
    (ad : Addr) (m c : Nat) (news : List Value) (hx : a.eval x = .slice (some ad) m c) (hl : news.length = m * size) (hnews : ∀ j u, news[j]? = some u → w.cell? (ad.add j) = some u) (h1 : ∀ u ∈ news, u.oneCell' = true)
    (h63 : n + m ≤ maxLen) (hbytes : (n + m) * bytes ≤ 140737488355328) (hbase : base ≤ w.heap.size)
    (h : ∀ v' w', OwnS w' base e size v' (n + m) (xs ++ news) → w.grownBy w' v.ownBlock → (v'.ownBlock = v.ownBlock ∨ v'.ownBlock = some w.heap.size) → K (a.put o.dst v') w') : o.wp P a w K Q := by
  obtain ⟨v', w', hr, h2, h3, h4⟩ := run_append_S (P := P) w base t o.type e i z size bytes ht hi hz hsize hby hzs v n xs hown ad m c news hl hnews h1 h63 hbytes hbase
  unfold Oper.wp execOp
  simp only [ho, resolve, invoke, builtin, Sem.run_bind, Sem.run_pure, Result.andThen_ok, List.map_toArray, List.map_cons, List.map_nil, hs, hx, hr]
  exact h v' w' h2 h3 h4

theorem wpList_append_S {ops : Array Oper} {rest : List Oper} {o : Oper} {a : Act} {Q : Exit → Act → World → Prop} (hgd : o.guard = none) (s x : Operand) (t : TypeId)
    (ho : o.op = .call { callee := .builtin .append, args := #[s, x], argTypes := #[t, t] })
    (base : Nat) (e : TypeId) (i : TypeInfo) (z : Value) (size bytes : Nat) (ht : P.underlying t = some (.slice e)) (hi : P.info? e = some i) (hz : i.zero = some z)
    (hsize : i.size = size) (hby : i.bytes = bytes) (hzs : z.cells.size = size)
    (v : Value) (n : Nat) (xs : List Value) (hs : a.eval s = v) (hown : OwnS w base e size v n xs)
    (ad : Addr) (m c : Nat) (news : List Value) (hx : a.eval x = .slice (some ad) m c) (hl : news.length = m * size) (hnews : ∀ j u, news[j]? = some u → w.cell? (ad.add j) = some u) (h1 : ∀ u ∈ news, u.oneCell' = true)
    (h63 : n + m ≤ maxLen) (hbytes : (n + m) * bytes ≤ 140737488355328) (hbase : base ≤ w.heap.size)
    (h : ∀ v' w', OwnS w' base e size v' (n + m) (xs ++ news) → w.grownBy w' v.ownBlock → (v'.ownBlock = v.ownBlock ∨ v'.ownBlock = some w.heap.size) → wpList P ops Q rest (a.put o.dst v') w') : wpList P ops Q (o :: rest) a w :=
  wpList_plain hgd fun _ hK => wp_append_S w s x t ho base e i z size bytes ht hi hz hsize hby hzs v n xs hs hown ad m c news hx hl hnews h1 h63 hbytes hbase fun v' w' h2 h3 h4 => hK _ _ (h v' w' h2 h3 h4)

theorem step_append_S {ops : Array Oper} {o : Oper} {a : Act} {K : Act → World → Prop} {Q : Exit → Act → World → Prop} {E : Prop} (hgd : o.guard = none) (s x : Operand) (t : TypeId)
    (ho : o.op = .call { callee := .builtin .append, args := #[s, x], argTypes := #[t, t] })
    (base : Nat) (e : TypeId) (i : TypeInfo) (z : Value) (size bytes : Nat) (ht : P.underlying t = some (.slice e)) (hi : P.info? e = some i) (hz : i.zero = some z)
    (hsize : i.size = size) (hby : i.bytes = bytes) (hzs : z.cells.size = size)
    (v : Value) (n : Nat) (xs : List Value) (hs : a.eval s = v) (hown : OwnS w base e size v n xs)
    (ad : Addr) (m c : Nat) (news : List Value) (hx : a.eval x = .slice (some ad) m c) (hl : news.length = m * size) (hnews : ∀ j u, news[j]? = some u → w.cell? (ad.add j) = some u) (h1 : ∀ u ∈ news, u.oneCell' = true)
    (h63 : n + m ≤ maxLen) (hbytes : (n + m) * bytes ≤ 140737488355328) (hbase : base ≤ w.heap.size)
    (h : ∀ v' w', OwnS w' base e size v' (n + m) (xs ++ news) → w.grownBy w' v.ownBlock → (v'.ownBlock = v.ownBlock ∨ v'.ownBlock = some w.heap.size) → K (a.put o.dst v') w') :
    if Region.wanted o (yielded ops a.tmps) = true then Oper.wp P o a w K Q else E := by
  have hw : Region.wanted o (yielded ops a.tmps) = true := by simp [Region.wanted, hgd]
  rw [if_pos hw]
  exact wp_append_S w s x t ho base e i z size bytes ht hi hz hsize hby hzs v n xs hs hown ad m c news hx hl hnews h1 h63 hbytes hbase h

end

end Go.Proofs.YtinpopjnnljkhaaGreatDoor
/- Maps keyed by ints: a block that is a map reads as a function from keys to values; look-up and store. No program is named here. -/
namespace Go.Proofs.YtinpopjnnljkhaaGreatDoor
open Go.RowKit

def isKey (k : Int) (e : MapEntry) : Bool :=
  match e.key with
  | .int .i64 j => decide (k = j)
  | _ => false

def valAt (es : List MapEntry) (k : Int) : Option Value := (es.find? (isKey k)).map (·.val)

def intKeys (es : List MapEntry) : Prop := ∀ e ∈ es, ∃ k, e.key = .int .i64 k

theorem findNow_int (k : Int) : ∀ (es : List MapEntry) (i : Nat), intKeys es →
    Instr.findNow (.int .i64) (.int .i64 k) es i = some ((es.findIdx? (isKey k)).bind fun j => (es[j]?).map fun e => (i + j, e.val)) := by
  intro es
  induction es with
  | nil => intro i _; rfl
  | cons e es ih =>
    intro i hk
    obtain ⟨j, hj⟩ := hk e (by simp)
    have hes : intKeys es := fun e he => hk e (by simp [he])
    by_cases h : k = j
    · subst h
      simp [Instr.findNow, Instr.sameNow, hj, isKey, List.findIdx?_cons]
    · have h2 : (k == j) = false := by simpa using h
      simp only [Instr.findNow, Instr.sameNow, hj, if_true, h2]
      rw [ih (i + 1) hes]
      have hki : isKey k e = false := by simp [isKey, hj, h]
      simp only [List.findIdx?_cons, hki, Bool.false_eq_true, if_false]
      cases hx : es.findIdx? (isKey k) with
      | none => rfl
      | some x => simp [Nat.add_comm, Nat.add_left_comm]

/-- Block r is a map keyed by ints that holds f. -/
def IMap (w : World) (r : Nat) (f : Int → Option Value) : Prop :=
  ∃ es clock, w.heap[r]? = some (.map es clock) ∧ intKeys es.toList ∧ ∀ k, valAt es.toList k = f k

section
variable {w w' : World} {r : Nat} {f : Int → Option Value}
theorem IMap.keep (h : IMap w r f) (hk : w'.heap[r]? = w.heap[r]?) : IMap w' r f := by
  obtain ⟨es, clock, h1, h2⟩ := h
  exact ⟨es, clock, hk.trans h1, h2⟩
theorem IMap.lt (h : IMap w r f) : r < w.heap.size := by
  obtain ⟨es, clock, h1, _⟩ := h
  exact (Array.getElem?_eq_some_iff.1 h1).1
theorem IMap.alloc (h : IMap w r f) (o : Obj) : IMap (w.alloc o) r f := h.keep (Below.heap_alloc w o r h.lt)
theorem IMap.drew (h : IMap w r f) : IMap w.drew r f := h
theorem IMap.drewN (h : IMap w r f) (n : Nat) : IMap (w.drewN n) r f := h
theorem IMap.setCell (h : IMap w r f) {p : Addr} (hp : r ≠ p.block) (u : Value) : IMap (w.setCell p u) r f := h.keep (Below.heap_setCell w p u r hp)
theorem IMap.below {B : Nat} (h : IMap w r f) (hb : Below B w w') (hg : r < B) : IMap w' r f := h.keep (hb.block r hg)
theorem IMap.grown {row : Option Nat} (h : IMap w r f) (hb : w.grownBy w' row) (hg : some r ≠ row) : IMap w' r f := h.keep (hb.block r h.lt hg)
theorem IMap.made (w : World) : IMap (w.alloc (.map #[] 0)) w.heap.size (fun _ => none) := ⟨#[], 0, heap_alloc_new w _, by intro e he; simp at he, fun k => rfl⟩
end

section
variable {P : Program} {w : World} {t kt et : TypeId} {r : Nat} {f : Int → Option Value}

theorem run_findKey_int (hk : P.underlying kt = some (.int .i64)) (k : Int) (es : List MapEntry) (h : intKeys es) (w : World) :
    (Instr.findKey kt (.int .i64 k) es).run P w = .ok ((es.findIdx? (isKey k)).bind fun j => (es[j]?).map fun e => (j, e.val)) w := by
  simp [Instr.findKey, run_underlying hk, findNow_int k es 0 h]

theorem run_checkKey_int (b : Bool) (n : Nat) (hk : P.underlying kt = some (.int .i64)) (k : Int) (w : World) : (Instr.checkKey b (n + 1) kt (.int .i64 k)).run P w = .ok () w := by
  simp [Instr.checkKey, run_underlying hk]

theorem valAt_idx (es : List MapEntry) (k : Int) : valAt es k = (es.findIdx? (isKey k)).bind fun j => (es[j]?).map (·.val) := by
  unfold valAt
  induction es with
  | nil => rfl
  | cons e es ih =>
    by_cases h : isKey k e = true
    · simp [List.findIdx?_cons, h]
    · simp only [List.find?_cons, List.findIdx?_cons, h, if_false, Bool.false_eq_true]
      rw [ih]
      cases es.findIdx? (isKey k) <;> simp

theorem run_lookup_int (ht : P.underlying t = some (.map kt et)) (hk : P.underlying kt = some (.int .i64)) {z : Value} (hz : ∀ w, (zeroValue et).run P w = .ok z w) (h : IMap w r f) (k : Int) :
    (Instr.lookup t (.map (some r)) (.int .i64 k) false).run P w = .ok ((f k).getD z) w := by
  obtain ⟨es, clock, h1, h2, h3⟩ := h
  have h4 := h3 k
  rw [valAt_idx] at h4
  simp [Instr.lookup, run_underlying ht, MapKept.run_getObj_map h1, run_checkKey_int _ _ hk, run_findKey_int hk k es.toList h2]
  cases hx : es.toList.findIdx? (isKey k) with
  | none =>
    rw [hx] at h4
    simp at h4
    rw [← h4]
    simp [hz]
  | some j =>
    rw [hx] at h4
    have hj : j < es.toList.length := by
      have := List.findIdx?_eq_some_iff_getElem.1 hx
      exact this.1
    simp only [Option.bind_some, List.getElem?_eq_getElem hj, Option.map_some] at h4 ⊢
    rw [← h4]
    have hj' : j < es.size := by simpa using hj
    simp [Array.getElem?_eq_getElem hj']

theorem valAt_cons (e : MapEntry) (es : List MapEntry) (k : Int) : valAt (e :: es) k = if isKey k e = true then some e.val else valAt es k := by
  unfold valAt
  by_cases h : isKey k e = true
  · simp [h]
  · simp [h]

theorem valAt_modify (k j : Int) (v : Value) : ∀ (es : List MapEntry) (i : Nat), es.findIdx? (isKey k) = some i → intKeys es →
    valAt (es.modify i fun e => { e with key := .int .i64 k, val := v }) j = if j = k then some v else valAt es j := by
  intro es
  induction es with
  | nil => intro i h; simp at h
  | cons e es ih =>
    intro i h hk
    obtain ⟨q, hq⟩ := hk e (by simp)
    rw [List.findIdx?_cons] at h
    by_cases hke : isKey k e = true
    · rw [if_pos hke] at h
      cases h
      have hqk : k = q := by
        unfold isKey at hke
        rw [hq] at hke
        simpa using hke
      subst hqk
      rw [List.modify_zero_cons, valAt_cons, valAt_cons]
      have h1 : isKey j { e with key := .int .i64 k, val := v } = decide (j = k) := rfl
      have h2 : isKey j e = decide (j = k) := by unfold isKey; rw [hq]
      rw [h1, h2]
      by_cases hj : j = k <;> simp [hj]
    · rw [if_neg hke] at h
      cases hx : es.findIdx? (isKey k) with
      | none => rw [hx] at h; cases h
      | some i' =>
        rw [hx] at h
        cases h
        rw [List.modify_succ_cons, valAt_cons, valAt_cons, ih i' hx (fun e he => hk e (by simp [he]))]
        by_cases hje : isKey j e = true
        · have hj : j ≠ k := by rintro rfl; exact hke hje
          simp [hje, hj]
        · simp [hje]

theorem intKeys_modify (k : Int) (v : Value) : ∀ (es : List MapEntry) (i : Nat), intKeys es → intKeys (es.modify i fun e => { e with key := .int .i64 k, val := v }) := by
  intro es
  induction es with
  | nil => intro i h; simpa using h
  | cons e es ih =>
    intro i h
    cases i with
    | zero =>
      intro x hx
      rw [List.modify_zero_cons] at hx
      rcases List.mem_cons.1 hx with rfl | hx
      · exact ⟨k, rfl⟩
      · exact h x (by simp [hx])
    | succ i =>
      intro x hx
      rw [List.modify_succ_cons] at hx
      rcases List.mem_cons.1 hx with rfl | hx
      · exact h x (by simp)
      · exact ih i (fun e he => h e (by simp [he])) x hx

/-- A store: the same function but at k; only block r has turned. -/
theorem run_mapUpdate_int (ht : P.underlying t = some (.map kt et)) (hk : P.underlying kt = some (.int .i64)) (h : IMap w r f) (k : Int) (v : Value) :
    ∃ w2, (Instr.mapUpdate t (.map (some r)) (.int .i64 k) v).run P w = .ok () w2 ∧ IMap w2 r (fun j => if j = k then some v else f j) ∧ w.grownBy w2 (some r) ∧ w2.heap.size = w.heap.size := by
  obtain ⟨es, clock, h1, h2, h3⟩ := h
  have hlt : r < w.heap.size := (Array.getElem?_eq_some_iff.1 h1).1
  have hgr : ∀ o : Obj, w.grownBy { w with heap := w.heap.setIfInBounds r o } (some r) := fun o =>
    ⟨rfl, rfl, rfl, by simp, fun i _ hi => by simp [Array.getElem?_setIfInBounds]; intro e; exact absurd (by rw [e]) hi⟩
  have hat : ∀ o : Obj, ({ w with heap := w.heap.setIfInBounds r o } : World).heap[r]? = some o := fun o => by simp [hlt]
  cases hx : es.toList.findIdx? (isKey k) with
  | none =>
    refine ⟨{ w with heap := w.heap.setIfInBounds r (.map (es.push { key := .int .i64 k, val := v, born := clock }) (clock + 1)) }, ?_, ⟨_, _, hat _, ?_, ?_⟩, hgr _, by simp⟩
    · simp [Instr.mapUpdate, run_underlying ht, MapKept.run_getObj_map h1, run_checkKey_int _ _ hk, run_findKey_int hk k es.toList h2, hx, MapKept.run_setObj_map _ h1]
    · intro e he
      simp at he
      rcases he with he | rfl
      · exact h2 e (by simpa using he)
      · exact ⟨k, rfl⟩
    · intro j
      have hn : ∀ e ∈ es.toList, isKey k e = false := by simpa using hx
      by_cases hj : j = k
      · subst hj
        have : es.toList.find? (isKey j) = none := by simpa using hn
        simp [valAt, List.find?_append, this, isKey]
      · have hs : isKey j ⟨.int .i64 k, v, clock⟩ = false := by simp [isKey, hj]
        simp only [if_neg hj, ← h3 j, valAt, Array.toList_push, List.find?_append, List.find?_cons, hs, List.find?_nil, Option.or_none]
  | some i =>
    have hi := List.findIdx?_eq_some_iff_getElem.1 hx
    obtain ⟨hil, hik, hib⟩ := hi
    have hkey : es.toList[i].key = .int .i64 k := by
      obtain ⟨j, hj⟩ := h2 _ (List.getElem_mem hil)
      rw [hj]
      unfold isKey at hik
      rw [hj] at hik
      simp at hik
      rw [hik]
    have hil' : i < es.size := by simpa using hil
    have hkey' : es[i].key = .int .i64 k := by simpa using hkey
    refine ⟨{ w with heap := w.heap.setIfInBounds r (.map (es.modify i fun e => { e with key := .int .i64 k, val := v }) clock) }, ?_, ⟨_, _, hat _, ?_, ?_⟩, hgr _, by simp⟩
    · simp [Instr.mapUpdate, run_underlying ht, MapKept.run_getObj_map h1, run_checkKey_int _ _ hk, run_findKey_int hk k es.toList h2, hx, MapKept.run_setObj_map _ h1, Instr.keyThatStays, Instr.sameBits, hil', hkey']
    · rw [Array.toList_modify]
      exact intKeys_modify k v _ _ h2
    · intro j
      rw [Array.toList_modify, valAt_modify k j v _ _ hx h2, h3]

end
end Go.Proofs.YtinpopjnnljkhaaGreatDoor
/- What has turned since; rows of other elements. No program is named here. -/
namespace Go.Proofs.YtinpopjnnljkhaaGreatDoor
open Go.RowKit

/-- But for the blocks in S nothing that was there has turned. -/
structure Since (S : Nat → Prop) (w w' : World) : Prop where
  os : w'.os = w.os
  tape : w'.tape = w.tape
  output : w'.output = w.output
  size : w.heap.size ≤ w'.heap.size
  block : ∀ k, k < w.heap.size → ¬ S k → w'.heap[k]? = w.heap[k]?

section
variable {S : Nat → Prop} {a w w' : World}
theorem Since.refl (S : Nat → Prop) (w : World) : Since S w w := ⟨rfl, rfl, rfl, Nat.le_refl _, fun _ _ _ => rfl⟩
theorem Since.trans {b c : World} (h : Since S a b) (k : Since S b c) : Since S a c :=
  ⟨k.os.trans h.os, k.tape.trans h.tape, k.output.trans h.output, Nat.le_trans h.size k.size, fun i hi hs => (k.block i (Nat.lt_of_lt_of_le hi h.size) hs).trans (h.block i hi hs)⟩
theorem Since.drew (h : Since S a w) : Since S a w.drew := ⟨h.os, h.tape, h.output, h.size, h.block⟩
theorem Since.drewN (h : Since S a w) (n : Nat) : Since S a (w.drewN n) := ⟨h.os, h.tape, h.output, h.size, h.block⟩
theorem Since.alloc (h : Since S a w) (o : Obj) : Since S a (w.alloc o) :=
  ⟨h.os, h.tape, h.output, Nat.le_trans h.size (by simp), fun i hi hs => (Below.heap_alloc w o i (Nat.lt_of_lt_of_le hi h.size)).trans (h.block i hi hs)⟩
theorem Since.setCell (h : Since S a w) {p : Addr} (hp : S p.block ∨ a.heap.size ≤ p.block) (u : Value) : Since S a (w.setCell p u) :=
  ⟨h.os, h.tape, h.output, by simpa [World.setCell] using h.size, fun i hi hs => (Below.heap_setCell w p u i (by
    rintro rfl
    rcases hp with hp | hp
    · exact hs hp
    · omega)).trans (h.block i hi hs)⟩
theorem Since.grown {row : Option Nat} (h : Since S a w) (hg : w.grownBy w' row) (hr : ∀ k, row = some k → S k ∨ a.heap.size ≤ k) : Since S a w' :=
  ⟨hg.os.trans h.os, hg.tape.trans h.tape, hg.output.trans h.output, Nat.le_trans h.size hg.size, fun i hi hs => (hg.block i (Nat.lt_of_lt_of_le hi h.size) (fun e => by
    rcases hr i e.symm with h1 | h1
    · exact hs h1
    · omega)).trans (h.block i hi hs)⟩
theorem Since.below (h : Since S a w) (hb : Below w.heap.size w w') : Since S a w' :=
  ⟨hb.os.trans h.os, hb.tape.trans h.tape, hb.output.trans h.output, Nat.le_trans h.size hb.size, fun i hi hs => (hb.block i (Nat.lt_of_lt_of_le hi h.size)).trans (h.block i hi hs)⟩
theorem Since.toBelow {B : Nat} (h : Since S a w) (hB : B ≤ a.heap.size) (hS : ∀ k, S k → B ≤ k) : Below B a w :=
  ⟨h.os, h.tape, h.output, h.size, fun i hi => h.block i (by omega) (fun hs => by have := hS i hs; omega)⟩
theorem Since.mono {S' : Nat → Prop} (h : Since S a w) (hS : ∀ k, S k → S' k) : Since S' a w := ⟨h.os, h.tape, h.output, h.size, fun i hi hs => h.block i hi (fun h1 => hs (hS i h1))⟩
theorem Blk.since {g : Nat} {t : TypeId} {cs : Array Value} (h : Blk w g t cs) (hs : Since S w w') (hg : ¬ S g) : Blk w' g t cs := h.keep (hs.block g h.lt hg)
theorem OwnS.since {base : Nat} {e : TypeId} {size : Nat} {v : Value} {n : Nat} {xs : List Value} (h : OwnS w base e size v n xs) (hs : Since S w w') (hS : ∀ g, v.ownBlock = some g → ¬ S g) : OwnS w' base e size v n xs :=
  h.of_block fun g hv => hs.block g (h.lt g hv).2 (hS g hv)
theorem IMap.since {r : Nat} {f : Int → Option Value} (h : IMap w r f) (hs : Since S w w') (hg : ¬ S r) : IMap w' r f := h.keep (hs.block r h.lt hg)
end

/-- Rows of other elements lie in other blocks. -/
theorem OwnS.apart {w : World} {base base' : Nat} {e e' : TypeId} {size size' : Nat} {v v' : Value} {n n' : Nat} {xs xs' : List Value} (h : OwnS w base e size v n xs) (h' : OwnS w base' e' size' v' n' xs') (hne : e ≠ e') :
    ∀ g, v.ownBlock = some g → v'.ownBlock ≠ some g := by
  intro g hv hv'
  rcases h.2 with ⟨rfl, _⟩ | ⟨g1, off1, cap1, cur1, rfl, _, hg1, _⟩
  · cases hv
  · rcases h'.2 with ⟨rfl, _⟩ | ⟨g2, off2, cap2, cur2, rfl, _, hg2, _⟩
    · cases hv'
    · simp [Value.ownBlock] at hv hv'
      subst hv
      subst hv'
      rw [hg1] at hg2
      simp at hg2
      exact hne hg2.2

theorem Since.step {S S' : Nat → Prop} {a b c : World} (h : Since S a b) (k : Since S' b c) (hS : ∀ g, S' g → S g ∨ a.heap.size ≤ g) : Since S a c :=
  ⟨k.os.trans h.os, k.tape.trans h.tape, k.output.trans h.output, Nat.le_trans h.size k.size, fun i hi hs => (k.block i (Nat.lt_of_lt_of_le hi h.size) (fun h1 => by
    rcases hS i h1 with h2 | h2
    · exact hs h2
    · omega)).trans (h.block i hi hs)⟩

theorem Blk.set3 {w : World} {g : Nat} {t : TypeId} {a b c : Value} (h : Blk w g t #[a, b, c]) (x y z : Value) : Blk (((w.setCell ⟨g, 0, none⟩ x).setCell ⟨g, 1, none⟩ y).setCell ⟨g, 2, none⟩ z) g t #[x, y, z] := by
  have := ((h.set_ 0 x).set_ 1 y).set_ 2 z
  simpa using this

theorem news_one (w : World) (g : Nat) (u : Value) (h : w.cell? ⟨g, 0, none⟩ = some u) : ∀ j v, [u][j]? = some v → w.cell? ((⟨g, 0, none⟩ : Addr).add j) = some v := by
  intro j v hj
  cases j with
  | zero => simp at hj; subst hj; exact h
  | succ j => simp at hj

theorem below_alloc (w : World) (o : Obj) : Below w.heap.size w (w.alloc o) := (Below.refl _ _).alloc (Nat.le_refl _) _

theorem RowAt.later {α : Type} {size : Nat} {cells : α → List Value} {w w' : World} {A : Option Addr} {l : List α} (h : RowAt size cells w w.heap.size A l) (hb : Below w.heap.size w w') : RowAt size cells w' w'.heap.size A l := (h.below hb (Nat.le_refl _)).mono hb.size

theorem OwnS.ne_blk {w : World} {base : Nat} {e : TypeId} {size : Nat} {v : Value} {n : Nat} {xs : List Value} (h : OwnS w base e size v n xs) {g : Nat} {t : TypeId} {cs : Array Value} (hb : Blk w g t cs) (hne : e ≠ t) : v.ownBlock ≠ some g := by
  intro hv
  rcases h.2 with ⟨rfl, _⟩ | ⟨g1, off1, cap1, cur1, rfl, _, hg1, _⟩
  · cases hv
  · have e1 : g1 = g := by simpa [Value.ownBlock] using hv
    subst e1
    unfold Blk at hb
    rw [hb] at hg1
    simp at hg1
    exact hne hg1.2.symm

section
variable {P : Program} (w : World)

/-- append of a slice that may be nil. -/
theorem run_append_Q (base : Nat) (t ty e : TypeId) (i : TypeInfo) (z : Value) (size bytes : Nat) (ht : P.underlying t = some (.slice e)) (hi : P.info? e = some i) (hz : i.zero = some z)
    (hsize : i.size = size) (hby : i.bytes = bytes) (hzs : z.cells.size = size) (hs0 : 0 < size)
    (v : Value) (n : Nat) (xs : List Value) (hown : OwnS w base e size v n xs)
    (A : Option Addr) (m c : Nat) (news : List Value) (hl : news.length = m * size) (hnews : ∀ j u, news[j]? = some u → ∃ a, A = some a ∧ w.cell? (a.add j) = some u) (h1 : ∀ u ∈ news, u.oneCell' = true)
    (h63 : n + m ≤ maxLen) (hbytes : (n + m) * bytes ≤ 140737488355328) (hbase : base ≤ w.heap.size) :
    ∃ v' w', (Builtin.append_ #[t, t] ty #[v, .slice A m c]).run P w = .ok v' w' ∧ OwnS w' base e size v' (n + m) (xs ++ news) ∧ w.grownBy w' v.ownBlock ∧
      (v'.ownBlock = v.ownBlock ∨ v'.ownBlock = some w.heap.size) := by
  cases A with
  | some a =>
    refine run_append_S w base t ty e i z size bytes ht hi hz hsize hby hzs v n xs hown a m c news hl (fun j u hu => ?_) h1 h63 hbytes hbase
    obtain ⟨a', ha, hc⟩ := hnews j u hu
    cases ha
    exact hc
  | none =>
    have hn : news = [] := by
      cases news with
      | nil => rfl
      | cons u us =>
        obtain ⟨a, ha, _⟩ := hnews 0 u rfl
        cases ha
    subst hn
    have hm : m = 0 := by
      rcases Nat.eq_zero_or_pos m with h | h
      · exact h
      · have := Nat.mul_pos h hs0
        simp at hl
        omega
    subst hm
    rcases hown.2 with ⟨rfl, rfl⟩ | ⟨g, off, cap, cur, rfl, hbg, hg, hnc, hcm, hcs, htake⟩
    · refine ⟨.slice none 0 0, w, ?_, by simpa using hown, ⟨rfl, rfl, rfl, Nat.le_refl _, fun _ _ _ => rfl⟩, .inl rfl⟩
      simp [Builtin.append_, run_underlying ht, sizeOf, typeInfo, hi, Builtin.lenOf, Builtin.firstCells]
    · refine ⟨.slice (some ⟨g, off, none⟩) n cap, w, ?_, by simpa using hown, ⟨rfl, rfl, rfl, Nat.le_refl _, fun _ _ _ => rfl⟩, .inl rfl⟩
      simp [Builtin.append_, run_underlying ht, sizeOf, typeInfo, hi, Builtin.lenOf, Builtin.firstCells, hnc, storeCells]

theorem step_append_Q {ops : Array Oper} {o : Oper} {a : Act} {K : Act → World → Prop} {Q : Exit → Act → World → Prop} {E : Prop} (hgd : o.guard = none) (s x : Operand) (t : TypeId)
    (ho : o.op = .call { callee := .builtin .append, args := #[s, x], argTypes := #[t, t] })
    (base : Nat) (e : TypeId) (i : TypeInfo) (z : Value) (size bytes : Nat) (ht : P.underlying t = some (.slice e)) (hi : P.info? e = some i) (hz : i.zero = some z)
    (hsize : i.size = size) (hby : i.bytes = bytes) (hzs : z.cells.size = size) (hs0 : 0 < size)
    (v : Value) (n : Nat) (xs : List Value) (hs : a.eval s = v) (hown : OwnS w base e size v n xs)
    (A : Option Addr) (m c : Nat) (news : List Value) (hx : a.eval x = .slice A m c) (hl : news.length = m * size) (hnews : ∀ j u, news[j]? = some u → ∃ a, A = some a ∧ w.cell? (a.add j) = some u) (h1 : ∀ u ∈ news, u.oneCell' = true)
    (h63 : n + m ≤ maxLen) (hbytes : (n + m) * bytes ≤ 140737488355328) (hbase : base ≤ w.heap.size)
    (h : ∀ v' w', OwnS w' base e size v' (n + m) (xs ++ news) → w.grownBy w' v.ownBlock → (v'.ownBlock = v.ownBlock ∨ v'.ownBlock = some w.heap.size) → K (a.put o.dst v') w') :
    if Region.wanted o (yielded ops a.tmps) = true then Oper.wp P o a w K Q else E := by
  have hw : Region.wanted o (yielded ops a.tmps) = true := by simp [Region.wanted, hgd]
  rw [if_pos hw]
  obtain ⟨v', w', hr, h2, h3, h4⟩ := run_append_Q (P := P) w base t o.type e i z size bytes ht hi hz hsize hby hzs hs0 v n xs hown A m c news hl hnews h1 h63 hbytes hbase
  unfold Oper.wp execOp
  simp only [ho, resolve, invoke, builtin, Sem.run_bind, Sem.run_pure, Result.andThen_ok, List.map_toArray, List.map_cons, List.map_nil, hs, hx, hr]
  exact h v' w' h2 h3 h4
end

section
variable {P : Program} (w : World)
theorem wpList_append_Q {ops : Array Oper} {rest : List Oper} {o : Oper} {a : Act} {Q : Exit → Act → World → Prop} (hgd : o.guard = none) (s x : Operand) (t : TypeId)
    (ho : o.op = .call { callee := .builtin .append, args := #[s, x], argTypes := #[t, t] })
    (base : Nat) (e : TypeId) (i : TypeInfo) (z : Value) (size bytes : Nat) (ht : P.underlying t = some (.slice e)) (hi : P.info? e = some i) (hz : i.zero = some z)
    (hsize : i.size = size) (hby : i.bytes = bytes) (hzs : z.cells.size = size) (hs0 : 0 < size)
    (v : Value) (n : Nat) (xs : List Value) (hs : a.eval s = v) (hown : OwnS w base e size v n xs)
    (A : Option Addr) (m c : Nat) (news : List Value) (hx : a.eval x = .slice A m c) (hl : news.length = m * size) (hnews : ∀ j u, news[j]? = some u → ∃ a, A = some a ∧ w.cell? (a.add j) = some u) (h1 : ∀ u ∈ news, u.oneCell' = true)
    (h63 : n + m ≤ maxLen) (hbytes : (n + m) * bytes ≤ 140737488355328) (hbase : base ≤ w.heap.size)
    (h : ∀ v' w', OwnS w' base e size v' (n + m) (xs ++ news) → w.grownBy w' v.ownBlock → (v'.ownBlock = v.ownBlock ∨ v'.ownBlock = some w.heap.size) → wpList P ops Q rest (a.put o.dst v') w') : wpList P ops Q (o :: rest) a w :=
  wpList_plain hgd fun _ hK => by
    obtain ⟨v', w', hr, h2, h3, h4⟩ := run_append_Q (P := P) w base t o.type e i z size bytes ht hi hz hsize hby hzs hs0 v n xs hown A m c news hl hnews h1 h63 hbytes hbase
    unfold Oper.wp execOp
    simp only [ho, resolve, invoke, builtin, Sem.run_bind, Sem.run_pure, Result.andThen_ok, List.map_toArray, List.map_cons, List.map_nil, hs, hx, hr]
    exact hK _ _ (h v' w' h2 h3 h4)
end

end Go.Proofs.YtinpopjnnljkhaaGreatDoor
/- A region that draws its order, walked in the order of the text: the soft operations (they only yield a value, in every world that meets S) and the hard ones (each comes up alone); the operations of 'ex' wait for all soft ones, so S need not hold behind them. Turned from the library's OrdersHeld. No program is named here. -/
namespace Go.Proofs.YtinpopjnnljkhaaGreatDoor

section
variable {P : Program} {ops : Array Oper} {Q : Exit → Act → World → Prop} {md : Region.Mode} {S : World → Prop} {ex : List Nat}

/-- Whatever order is picked from here on, and S holds behind every operation that is carried out, but those of 'ex'. -/
def wpAnyT (P : Program) (md : Region.Mode) (ops : Array Oper) (Q : Exit → Act → World → Prop) (S : World → Prop) (ex : List Nat) : Nat → Array Bool → Act → World → Prop
  | 0, listed, a, w => Region.ready md ops listed = [] ∧ Q .normal a w
  | fuel + 1, listed, a, w =>
    (Region.ready md ops listed = [] → Q .normal a w) ∧
    ∀ i ∈ Region.ready md ops listed, wpOp P ops Q i (fun a' w' => (i ∉ ex → S w') ∧ wpAnyT P md ops Q S ex fuel (listed.setIfInBounds i true) a' w') a w

theorem wpAny_of_T : ∀ (fuel : Nat) (listed : Array Bool) (a : Act) (w : World), wpAnyT P md ops Q S ex fuel listed a w → wpAny P md ops Q fuel listed a w
  | 0, _, _, _, h => h
  | fuel + 1, _, _, _, h => ⟨h.1, fun i hi => wpOp_mono (fun a' w' h' => wpAny_of_T fuel _ a' w' h'.2) (h.2 i hi)⟩

theorem wpAnyT_first {i : Nat} {oi : Oper} {v : Value} (hi : ops[i]? = some oi) (hsel : ∀ (j : Nat) (o : Oper) cs b, ops[j]? = some o → o.op ≠ .select cs b)
    (hex : ∀ j ∈ ex, Region.waitsFor md ops j i = true)
    (hQ : ∀ c a w, Q (.panic c) (a.put oi.dst v) w → Q (.panic c) a w) :
    ∀ (fuel : Nat) (listed : Array Bool) (a : Act) (w : World),
      (∀ j oj, ops[j]? = some oj → j ≠ i → listed.getD j true = false → (∀ e ∈ oj.after, Region.binds md e = true → e.on ≠ i) → oi.apart ops oj = true) →
      i ∈ Region.ready md ops listed → YieldsIf P ops S oi v a → S w →
      wpAnyT P md ops Q S ex fuel (listed.setIfInBounds i true) (a.put oi.dst v) w → wpAnyT P md ops Q S ex (fuel + 1) listed a w := by
  intro fuel
  induction fuel with
  | zero =>
    intro listed a w _ hr hy hS H
    refine ⟨fun h => (by rw [h] at hr; cases hr), fun j hj => ?_⟩
    by_cases hji : j = i
    · subst hji; exact hy.wpOp hi hS ⟨fun _ => hS, H⟩
    · have := ready_mono hj hji
      rw [H.1] at this
      cases this
  | succ fuel ih =>
    intro listed a w hfree hr hy hS H
    refine ⟨fun h => (by rw [h] at hr; cases hr), fun j hj => ?_⟩
    by_cases hji : j = i
    · subst hji; exact hy.wpOp hi hS ⟨fun _ => hS, H⟩
    · have h1 := H.2 j (ready_mono hj hji)
      obtain ⟨hjun, oj, hoj, hall⟩ := mem_ready.1 hj
      have hnot : ∀ e ∈ oj.after, Region.binds md e = true → e.on ≠ i := fun e he hb heq => by
        have h1 := hall e he hb
        have h0 := (mem_ready.1 hr).1
        rw [heq] at h1
        rcases Nat.lt_or_ge i listed.size with h' | h'
        · simp [h'] at h0 h1; rw [h0] at h1; cases h1
        · simp [Array.getElem?_eq_none h'] at h1
      have hjex : j ∉ ex := fun hm => by
        obtain ⟨oj', hj', e, he, hb, hon⟩ := Region.waitsFor_spec (hex j hm)
        rw [hoj] at hj'
        cases hj'
        exact hnot e he hb hon
      have h2 := wpOp_putIf hoj (hfree j oj hoj hji hjun hnot) (fun cs b => hsel i oi cs b hi) (fun cs b => hsel j oj cs b hoj) hQ hy h1
      have hfree' : ∀ k ok, ops[k]? = some ok → k ≠ i → (listed.setIfInBounds j true).getD k true = false →
          (∀ e ∈ ok.after, Region.binds md e = true → e.on ≠ i) → oi.apart ops ok = true := fun k ok hk hki hun hno => by
        refine hfree k ok hk hki ?_ hno
        by_cases hjk : j = k
        · subst hjk; exact hjun
        · rw [getD_set_ne true hjk] at hun; exact hun
      refine wpOp_mono (fun a' w' h3 => ⟨h3.2.1, ih (listed.setIfInBounds j true) a' w' hfree' (ready_mono hr (Ne.symm hji)) h3.1 (h3.2.1 hjex) ?_⟩) h2
      rw [Array.setIfInBounds_comm _ _ hji]
      exact h3.2.2

/-- The walk in the order of the text. -/
def wpHS (P : Program) (ops : Array Oper) (Q : Exit → Act → World → Prop) (S : World → Prop) (ex : List Nat) : Nat → List Bool → List Oper → Act → World → Prop
  | _, _, [], a, w => Q .normal a w
  | _, [], _ :: _, _, _ => False
  | k, true :: ss, o :: rest, a, w => ∃ v, YieldsIf P ops S o v a ∧ S w ∧ wpHS P ops Q S ex (k + 1) ss rest (a.put o.dst v) w
  | k, false :: ss, o :: rest, a, w => o.guard = none ∧ o.wp P a w (fun a' w' => (ex.contains k = false → S w') ∧ wpHS P ops Q S ex (k + 1) ss rest a' w') Q

/-- May the operations come up so? -/
def heldFrom (md : Region.Mode) (ops : Array Oper) (ex : List Nat) : Nat → List Bool → Array Bool → Bool
  | _, [], listed => (Region.ready md ops listed).isEmpty
  | k, true :: ss, listed => Region.free md ops listed k && (Region.ready md ops listed).contains k && ex.all (fun j => Region.waitsFor md ops j k) && heldFrom md ops ex (k + 1) ss (listed.setIfInBounds k true)
  | k, false :: ss, listed => (Region.ready md ops listed == [k]) && heldFrom md ops ex (k + 1) ss (listed.setIfInBounds k true)

theorem wpAnyT_of_HS (hs : Region.noSelect ops = true) (hQ : ∀ c a b w, Q (.panic c) a w → Q (.panic c) b w) : ∀ (l : List Oper) (ss : List Bool) (k : Nat) (listed : Array Bool) (a : Act) (w : World), (∀ j, l[j]? = ops[k + j]?) → ss.length = l.length →
    heldFrom md ops ex k ss listed = true → wpHS P ops Q S ex k ss l a w → wpAnyT P md ops Q S ex l.length listed a w := by
  intro l
  induction l with
  | nil =>
    intro ss k listed a w hl hss hB h
    have : ss = [] := List.eq_nil_of_length_eq_zero hss
    subst this
    exact ⟨by simpa [heldFrom] using hB, by simpa [wpHS] using h⟩
  | cons o rest ih =>
    intro ss k listed a w hl hss hB h
    have hok : ops[k]? = some o := by have := hl 0; simpa using this.symm
    have hl' : ∀ j, rest[j]? = ops[k + 1 + j]? := fun j => by
      have := hl (j + 1)
      rw [List.getElem?_cons_succ] at this
      rw [this, Nat.add_assoc, Nat.add_comm 1 j]
    cases ss with
    | nil => simp at hss
    | cons s ss =>
      have hss' : ss.length = rest.length := by simpa using hss
      cases s with
      | true =>
        simp only [heldFrom, Bool.and_eq_true] at hB
        obtain ⟨⟨⟨h1, h2⟩, h3⟩, h4⟩ := hB
        obtain ⟨v, hy, hS, h5⟩ := h
        refine wpAnyT_first hok (Region.noSelect_spec hs) (fun j hj => ?_) (fun c a w hq => hQ c _ _ w hq) rest.length listed a w (Region.free_spec hok h1) (by simpa using h2) hy hS (ih ss (k + 1) _ _ w hl' hss' h4 h5)
        exact List.all_eq_true.1 h3 j hj
      | false =>
        simp only [heldFrom, Bool.and_eq_true, beq_iff_eq] at hB
        obtain ⟨h1, h2⟩ := hB
        obtain ⟨hg, h5⟩ := h
        refine ⟨fun h0 => (by rw [h0] at h1; cases h1), fun i hi => ?_⟩
        rw [h1] at hi
        simp at hi
        subst hi
        have hw : Region.wanted o (yielded ops a.tmps) = true := by simp [Region.wanted, hg]
        unfold wpOp
        simp only [hok, hw, if_true]
        refine .inl (Oper.wp_mono (fun a' w' h6 => ⟨fun hn => h6.1 (by simpa using hn), ih ss (i + 1) _ a' w' hl' hss' h2 h6.2⟩) h5)

/-- The beginning. -/
theorem wp_region_HS {id : Nat} {a : Act} {w : World} {l : List Oper} (S : World → Prop) (ex : List Nat) (ss : List Bool) (hm : P.follows .mixedOrders = true) (hs : Region.noSelect l.toArray = true)
    (hl : ss.length = l.length) (hB : heldFrom .any l.toArray ex 0 ss (Array.replicate l.length false) = true) (h : wpHS P l.toArray (NoPanic Q) S ex 0 ss l a w.drew) : (Code.region id l.toArray true).wp P Q a w := by
  refine wp_region_noPanic (wp_region_any hm (wpAny_of_T (S := S) (ex := ex) _ _ _ _ ?_))
  have := wpAnyT_of_HS (P := P) (S := S) (md := .any) hs (Q := NoPanic Q) (fun c a b w hq => (hq : False).elim) l ss 0 (Array.replicate l.length false) a w.drew (fun j => by simp) hl hB h
  simpa using this

theorem wpHS_nil {k : Nat} {ss : List Bool} {a : Act} {w : World} (h : Q .normal a w) : wpHS P ops (NoPanic Q) S ex k ss [] a w := by
  cases ss <;> exact h

theorem wpHS_soft {k : Nat} {ss : List Bool} {o : Oper} {rest : List Oper} {a : Act} {w : World} {v : Value} (hg : o.guard = none) (hS : S w) (hy : ∀ w', S w' → (execOp a.eval o).run P w' = .ok (.value v) w')
    (h : wpHS P ops Q S ex (k + 1) ss rest (a.put o.dst v) w) : wpHS P ops Q S ex k (true :: ss) (o :: rest) a w :=
  ⟨v, .inl ⟨by simp [Region.wanted, hg], hy⟩, hS, h⟩

/-- A hard operation that is run. -/
theorem wpHS_run {k : Nat} {ss : List Bool} {o : Oper} {rest : List Oper} {a : Act} {w w' : World} {v : Value} (hg : o.guard = none) (hr : (execOp a.eval o).run P w = .ok (.value v) w') (hS : ex.contains k = false → S w')
    (h : wpHS P ops Q S ex (k + 1) ss rest (a.put o.dst v) w') : wpHS P ops Q S ex k (false :: ss) (o :: rest) a w :=
  ⟨hg, by unfold Oper.wp; rw [hr]; exact ⟨hS, h⟩⟩

theorem wpHS_skip {k : Nat} {ss : List Bool} {o : Oper} {rest : List Oper} {a : Act} {w w' : World} (hg : o.guard = none) (hr : (execOp a.eval o).run P w = .ok .skip w') (hS : ex.contains k = false → S w')
    (h : wpHS P ops Q S ex (k + 1) ss rest (a.put o.dst undef) w') : wpHS P ops Q S ex k (false :: ss) (o :: rest) a w :=
  ⟨hg, by unfold Oper.wp; rw [hr]; exact ⟨hS, h⟩⟩

/-- A hard operation by its law. -/
theorem wpHS_law {k : Nat} {ss : List Bool} {o : Oper} {rest : List Oper} {a : Act} {w : World} (hg : o.guard = none)
    (h : o.wp P a w (fun a' w' => (ex.contains k = false → S w') ∧ wpHS P ops Q S ex (k + 1) ss rest a' w') Q) : wpHS P ops Q S ex k (false :: ss) (o :: rest) a w := ⟨hg, h⟩

end
end Go.Proofs.YtinpopjnnljkhaaGreatDoor
/- The walk of a region that draws its order (XHeld), where operations are guarded. No program is named here. -/
namespace Go.Proofs.YtinpopjnnljkhaaGreatDoor

section
variable {P : Program} {ops : Array Oper} {Q : Exit → Act → World → Prop} {md : Region.Mode} {S : World → Prop} {ex : List Nat}

/-- The walk in the order of the text. -/
def wpHG (P : Program) (ops : Array Oper) (Q : Exit → Act → World → Prop) (S : World → Prop) (ex : List Nat) : Nat → List Bool → List Oper → Act → World → Prop
  | _, _, [], a, w => Q .normal a w
  | _, [], _ :: _, _, _ => False
  | k, true :: ss, o :: rest, a, w => ∃ v, YieldsIf P ops S o v a ∧ S w ∧ wpHG P ops Q S ex (k + 1) ss rest (a.put o.dst v) w
  | k, false :: ss, o :: rest, a, w => Region.wanted o (yielded ops a.tmps) = true ∧ o.wp P a w (fun a' w' => (ex.contains k = false → S w') ∧ wpHG P ops Q S ex (k + 1) ss rest a' w') Q

theorem wpAnyT_of_HG (hs : Region.noSelect ops = true) (hQ : ∀ c a b w, Q (.panic c) a w → Q (.panic c) b w) : ∀ (l : List Oper) (ss : List Bool) (k : Nat) (listed : Array Bool) (a : Act) (w : World), (∀ j, l[j]? = ops[k + j]?) → ss.length = l.length →
    heldFrom md ops ex k ss listed = true → wpHG P ops Q S ex k ss l a w → wpAnyT P md ops Q S ex l.length listed a w := by
  intro l
  induction l with
  | nil =>
    intro ss k listed a w hl hss hB h
    have : ss = [] := List.eq_nil_of_length_eq_zero hss
    subst this
    exact ⟨by simpa [heldFrom] using hB, by simpa [wpHG] using h⟩
  | cons o rest ih =>
    intro ss k listed a w hl hss hB h
    have hok : ops[k]? = some o := by have := hl 0; simpa using this.symm
    have hl' : ∀ j, rest[j]? = ops[k + 1 + j]? := fun j => by
      have := hl (j + 1)
      rw [List.getElem?_cons_succ] at this
      rw [this, Nat.add_assoc, Nat.add_comm 1 j]
    cases ss with
    | nil => simp at hss
    | cons s ss =>
      have hss' : ss.length = rest.length := by simpa using hss
      cases s with
      | true =>
        simp only [heldFrom, Bool.and_eq_true] at hB
        obtain ⟨⟨⟨h1, h2⟩, h3⟩, h4⟩ := hB
        obtain ⟨v, hy, hS, h5⟩ := h
        refine wpAnyT_first hok (Region.noSelect_spec hs) (fun j hj => ?_) (fun c a w hq => hQ c _ _ w hq) rest.length listed a w (Region.free_spec hok h1) (by simpa using h2) hy hS (ih ss (k + 1) _ _ w hl' hss' h4 h5)
        exact List.all_eq_true.1 h3 j hj
      | false =>
        simp only [heldFrom, Bool.and_eq_true, beq_iff_eq] at hB
        obtain ⟨h1, h2⟩ := hB
        obtain ⟨hg, h5⟩ := h
        refine ⟨fun h0 => (by rw [h0] at h1; cases h1), fun i hi => ?_⟩
        rw [h1] at hi
        simp at hi
        subst hi
        unfold wpOp
        simp only [hok, hg, if_true]
        refine .inl (Oper.wp_mono (fun a' w' h6 => ⟨fun hn => h6.1 (by simpa using hn), ih ss (i + 1) _ a' w' hl' hss' h2 h6.2⟩) h5)

/-- The beginning. -/
theorem wp_region_HG {id : Nat} {a : Act} {w : World} {l : List Oper} (S : World → Prop) (ex : List Nat) (ss : List Bool) (hm : P.follows .mixedOrders = true) (hs : Region.noSelect l.toArray = true)
    (hl : ss.length = l.length) (hB : heldFrom .any l.toArray ex 0 ss (Array.replicate l.length false) = true) (h : wpHG P l.toArray (NoPanic Q) S ex 0 ss l a w.drew) : (Code.region id l.toArray true).wp P Q a w := by
  refine wp_region_noPanic (wp_region_any hm (wpAny_of_T (S := S) (ex := ex) _ _ _ _ ?_))
  have := wpAnyT_of_HG (P := P) (S := S) (md := .any) hs (Q := NoPanic Q) (fun c a b w hq => (hq : False).elim) l ss 0 (Array.replicate l.length false) a w.drew (fun j => by simp) hl hB h
  simpa using this

theorem wpHG_nil {k : Nat} {ss : List Bool} {a : Act} {w : World} (h : Q .normal a w) : wpHG P ops (NoPanic Q) S ex k ss [] a w := by
  cases ss <;> exact h

theorem wpHG_soft {k : Nat} {ss : List Bool} {o : Oper} {rest : List Oper} {a : Act} {w : World} {v : Value} (hg : Region.wanted o (yielded ops a.tmps) = true) (hS : S w) (hy : ∀ w', S w' → (execOp a.eval o).run P w' = .ok (.value v) w')
    (h : wpHG P ops Q S ex (k + 1) ss rest (a.put o.dst v) w) : wpHG P ops Q S ex k (true :: ss) (o :: rest) a w :=
  ⟨v, .inl ⟨hg, hy⟩, hS, h⟩

/-- An operation whose guard says no. -/
theorem wpHG_off {k : Nat} {ss : List Bool} {o : Oper} {rest : List Oper} {a : Act} {w : World} (hg : Region.wanted o (yielded ops a.tmps) = false) (hS : S w)
    (h : wpHG P ops Q S ex (k + 1) ss rest (a.put o.dst undef) w) : wpHG P ops Q S ex k (true :: ss) (o :: rest) a w :=
  ⟨undef, .inr ⟨hg, rfl⟩, hS, h⟩

/-- A hard operation by its law. -/
theorem wpHG_law {k : Nat} {ss : List Bool} {o : Oper} {rest : List Oper} {a : Act} {w : World} (hg : Region.wanted o (yielded ops a.tmps) = true)
    (h : o.wp P a w (fun a' w' => (ex.contains k = false → S w') ∧ wpHG P ops Q S ex (k + 1) ss rest a' w') Q) : wpHG P ops Q S ex k (false :: ss) (o :: rest) a w := ⟨hg, h⟩

end
end Go.Proofs.YtinpopjnnljkhaaGreatDoor
/- The lines of a text: plain; texts in memory. -/
namespace Go.Proofs.YtinpopjnnljkhaaGreatDoor
open Go.RowKit

abbrev Bytes := List UInt8
def mkS (l : Bytes) : ByteArray := ⟨l.toArray⟩
def bz (s : Bytes) (i : Nat) : Nat := (s.getD i 0).toNat
theorem bz_get (s : ByteArray) (i : Nat) (h : i < s.size) : (s[i]'h).toNat = bz s.data.toList i := by
  unfold bz
  rw [List.getD_eq_getElem?_getD, List.getElem?_eq_getElem (by simpa using h)]
  rfl
theorem len_size (s : ByteArray) : s.data.toList.length = s.size := by simp

/-- Where lines begin, among the first i bytes. -/
def stN (s : Bytes) : Nat → List Nat
  | 0 => [0]
  | i + 1 => stN s i ++ (if bz s i = 10 then [i + 1] else [])
theorem stN_len (s : Bytes) : ∀ i, 1 ≤ (stN s i).length ∧ (stN s i).length ≤ i + 1
  | 0 => by simp [stN]
  | i + 1 => by
    have := stN_len s i
    unfold stN
    rw [List.length_append]
    split <;> simp <;> omega
structure StInv (s : Bytes) (i : Nat) (L : List Nat) : Prop where
  pos : 1 ≤ L.length
  le : ∀ (k a : Nat), L[k]? = some a → a ≤ i
  step : ∀ (k a b : Nat), L[k]? = some a → L[k + 1]? = some b → a < b ∧ bz s (b - 1) = 10
  last : ∀ (a : Nat), L[L.length - 1]? = some a → ∀ j, a ≤ j → j < i → bz s j ≠ 10
theorem stN_inv (s : Bytes) : ∀ i, StInv s i (stN s i)
  | 0 => ⟨by simp [stN], fun k a h => by
      match k, h with
      | 0, h => simp [stN] at h; omega
      | k + 1, h => simp [stN] at h, fun k a b _ h => by simp [stN] at h, fun a _ j h1 h2 => by omega⟩
  | i + 1 => by
    have ih := stN_inv s i
    obtain ⟨L, hL⟩ : ∃ L, stN s i = L := ⟨_, rfl⟩
    rw [hL] at ih
    unfold stN
    rw [hL]
    by_cases hb : bz s i = 10
    · rw [if_pos hb]
      have hp := ih.pos
      refine ⟨by simp, fun k a h => ?_, fun k a b h1 h2 => ?_, fun a h j h1 h2 => ?_⟩
      · by_cases hk : k < L.length
        · rw [List.getElem?_append_left hk] at h
          have := ih.le k a h
          omega
        · rw [List.getElem?_append_right (by omega)] at h
          have hk2 : k - L.length = 0 := by
            rcases Nat.eq_zero_or_pos (k - L.length) with e | e
            · exact e
            · rw [List.getElem?_eq_none (by simp; omega)] at h; cases h
          rw [hk2] at h
          simp at h
          omega
      · by_cases hk : k + 1 < L.length
        · rw [List.getElem?_append_left (by omega)] at h1
          rw [List.getElem?_append_left hk] at h2
          exact ih.step k a b h1 h2
        · rw [List.getElem?_append_right (by omega)] at h2
          have hk2 : k + 1 - L.length = 0 := by
            rcases Nat.eq_zero_or_pos (k + 1 - L.length) with e | e
            · exact e
            · rw [List.getElem?_eq_none (by simp; omega)] at h2; cases h2
          rw [hk2] at h2
          simp at h2
          subst h2
          rw [List.getElem?_append_left (by omega)] at h1
          have := ih.le k a h1
          exact ⟨by omega, by rw [Nat.add_sub_cancel]; exact hb⟩
      · simp at h
        omega
    · rw [if_neg hb, List.append_nil]
      refine ⟨ih.pos, fun k a h => Nat.le_succ_of_le (ih.le k a h), ih.step, fun a h j h1 h2 => ?_⟩
      by_cases hj : j < i
      · exact ih.last a h j h1 hj
      · have : j = i := by omega
        subst this
        exact hb

/-- A line without its end. -/
def endN (s : Bytes) (a e : Nat) : Nat := if a < e ∧ bz s (e - 1) = 13 then e - 1 else e
def lineM (s : ByteArray) (k : Nat) : ByteArray :=
  if k < 1 ∨ (stN s.data.toList s.size).length < k then ⟨#[]⟩
  else s.extract ((stN s.data.toList s.size).getD (k - 1) 0)
    (if k = (stN s.data.toList s.size).length then s.size else endN s.data.toList ((stN s.data.toList s.size).getD (k - 1) 0) ((stN s.data.toList s.size).getD k 0 - 1))

def natV (l : List Nat) : List Value := l.map fun n : Nat => Value.int .i64 (n : Int)
def strCells (s : ByteArray) : List Value := [.string s]
def strV (l : List ByteArray) : List Value := l.map Value.string
theorem strV_flat (l : List ByteArray) : strV l = l.flatMap strCells := by
  induction l with
  | nil => rfl
  | cons a l ih => rw [strV, List.map_cons, List.flatMap_cons, ← ih]; rfl

end Go.Proofs.YtinpopjnnljkhaaGreatDoor
/- Equality of rows of texts, walked. -/
namespace Go.Proofs.YtinpopjnnljkhaaGreatDoor
open Go.RowKit

theorem bytes_eq {a b : ByteArray} (h : a.data.toList = b.data.toList) : a = b := by
  obtain ⟨a⟩ := a
  obtain ⟨b⟩ := b
  have : a = b := Array.toList_inj.1 h
  rw [this]
theorem take_ext {α : Type} {l1 l2 : List α} {k : Nat} {x y : α} (h : l1.take k = l2.take k) (h1 : l1[k]? = some x) (h2 : l2[k]? = some y) (hxy : x = y) : l1.take (k + 1) = l2.take (k + 1) := by
  rw [List.take_add_one, List.take_add_one, h, h1, h2, hxy]

set_option maxHeartbeats 1000000 in
theorem Texts_any (A1 A2 : Option Addr) (n1 n2 c1 c2 : Nat) (l1 l2 : List ByteArray) (w : World) (h1 : RowAt 1 strCells w w.heap.size A1 l1) (h2 : RowAt 1 strCells w w.heap.size A2 l2) (hl1 : l1.length = n1) (hl2 : l2.length = n2) (hn : n1 ≤ 1000000) :
    Calls Tryz.prog 8 #[.slice A1 n1 c1, .slice A2 n2 c2] w fun e w' => e = .returned (.bool (decide (l1 = l2))) ∧ Below w.heap.size w w' := by
  by_cases hne : n1 = n2
  · subst hne
    have H1 := Lib.hid h1
    have H2 := Lib.hid h2
    have HL1 := Lib.hid hl1
    have HL2 := Lib.hid hl2
    clear h1 h2 hl1 hl2
    go_enter Tryz.func8, Tryz.ntmps8
    go_wp2_with fail
    go_loopg [5] n1 (fun gk s wr => ∃ k : Nat, k + gk = n1 ∧ s = .int .i64 k ∧ Below w.heap.size w wr ∧ l1.take k = l2.take k)
    case atStart => exact ⟨0, by omega, rfl, Below.refl _ _, rfl⟩
    case round =>
      obtain ⟨k, hk, rfl, hB, ht⟩ := hrel
      have hk' : k ≤ n1 := by omega
      have HK := Lib.hid hk
      have HT := Lib.hid ht
      clear hk ht
      by_cases hlt : k < n1
      · have e1 : l1[k]? = some (l1[k]'(by rw [HL1.out]; exact hlt)) := List.getElem?_eq_getElem _
        have e2 : l2[k]? = some (l2[k]'(by rw [HL2.out]; exact hlt)) := List.getElem?_eq_getElem _
        generalize l1[k]'(by rw [HL1.out]; exact hlt) = x at e1
        generalize l2[k]'(by rw [HL2.out]; exact hlt) = y at e2
        obtain ⟨b1, o1, hA1, hb1, hc1⟩ := (H1.out.below hB (Nat.le_refl _)) k _ e1
        obtain ⟨b2, o2, hA2, hb2, hc2⟩ := (H2.out.below hB (Nat.le_refl _)) k _ e2
        subst hA1
        subst hA2
        have hx : wr.cell? ⟨b1, o1 + k, none⟩ = some (.string x) := by simpa using hc1 0 _ rfl
        have hy : wr.cell? ⟨b2, o2 + k, none⟩ = some (.string y) := by simpa using hc2 0 _ rfl
        have E1 := Lib.hid e1
        have E2 := Lib.hid e2
        have hkn : (k : Int) < (n1 : Int) := by omega
        clear hc1 hc2 e1 e2
        by_cases hxy : x = y
        · subst hxy
          go_wp2_with fail
          go_quiet (fail)
          go_wp2_with fail
          go_roundg (gk - 1)
          case measure => have := HK.out; omega
          case rel => exact ⟨k + 1, by have := HK.out; omega, by go_num, by (repeat (first | exact Below.refl _ _ | assumption | refine Below.trans ?_ (Below.mono (by assumption) (by first | omega | (simp; done) | (simp; omega))) | refine Below.alloc ?_ (by first | omega | (simp; done) | (simp; omega)) _ | refine Below.setCell ?_ (by first | omega | (simp; done) | (simp; omega)) _ | refine Below.drew ?_ | refine below_drewN ?_ _)), take_ext HT.out E1.out E2.out rfl⟩
        · have hxb : ¬ x.toList = y.toList := fun h => hxy (bytes_eq (by rw [← ByteArray.toList_eq, ← ByteArray.toList_eq, h]))
          have hxc : (x.toList == y.toList) = false := by rw [beq_eq_false_iff_ne]; exact hxb
          have hres : decide (l1 = l2) = false := by
            refine decide_eq_false fun e => ?_
            have := E1.out
            rw [e, E2.out] at this
            cases this
            exact hxy rfl
          have HRES := Lib.hid hres
          clear hres hxy
          go_wp2_with fail
          go_quiet (fail)
          go_wp2_with fail
          go_ret
          rw [HRES.out]
          exact ⟨rfl, by (repeat (first | exact Below.refl _ _ | assumption | refine Below.trans ?_ (Below.mono (by assumption) (by first | omega | (simp; done) | (simp; omega))) | refine Below.alloc ?_ (by first | omega | (simp; done) | (simp; omega)) _ | refine Below.setCell ?_ (by first | omega | (simp; done) | (simp; omega)) _ | refine Below.drew ?_ | refine below_drewN ?_ _))⟩
      · have hres : decide (l1 = l2) = true := by
          have h := HT.out
          rw [List.take_of_length_le (by rw [HL1.out]; omega), List.take_of_length_le (by rw [HL2.out]; omega)] at h
          exact decide_eq_true h
        have HRES := Lib.hid hres
        clear hres
        go_wp2_with fail
        go_ret
        rw [HRES.out]
        exact ⟨rfl, by (repeat (first | exact Below.refl _ _ | assumption | refine Below.trans ?_ (Below.mono (by assumption) (by first | omega | (simp; done) | (simp; omega))) | refine Below.alloc ?_ (by first | omega | (simp; done) | (simp; omega)) _ | refine Below.setCell ?_ (by first | omega | (simp; done) | (simp; omega)) _ | refine Below.drew ?_ | refine below_drewN ?_ _))⟩
  · have hb : (n1 != n2) = true := by simpa using hne
    have hres : decide (l1 = l2) = false := decide_eq_false (fun e => hne (by rw [← hl1, ← hl2, e]))
    have HRES := Lib.hid hres
    have hb2 : ((n1 : Int) != (n2 : Int)) = true := by simp; omega
    clear hres h1 h2 hl1 hl2
    go_enter Tryz.func8, Tryz.ntmps8
    go_wp2_with fail
    go_ret
    rw [HRES.out]
    exact ⟨rfl, by (repeat (first | exact Below.refl _ _ | assumption | refine Below.trans ?_ (Below.mono (by assumption) (by first | omega | (simp; done) | (simp; omega))) | refine Below.alloc ?_ (by first | omega | (simp; done) | (simp; omega)) _ | refine Below.setCell ?_ (by first | omega | (simp; done) | (simp; omega)) _ | refine Below.drew ?_ | refine below_drewN ?_ _))⟩

end Go.Proofs.YtinpopjnnljkhaaGreatDoor
/- Where lines begin, walked. -/
namespace Go.Proofs.YtinpopjnnljkhaaGreatDoor
open Go.RowKit

theorem int_info : (Tryz.prog.info? 3).map (fun i => (i.zero, i.size, i.bytes)) = some (some (.int .i64 0), 1, 8) := by kernel_rfl
theorem str_info : (Tryz.prog.info? 9).map (fun i => (i.zero, i.size, i.bytes)) = some (some (.string ⟨#[]⟩), 1, 16) := by kernel_rfl

set_option maxHeartbeats 4000000 in
theorem Lines_any (s : ByteArray) (w : World) (hs : s.size ≤ 4096) :
    Calls Tryz.prog 21 #[.string s] w fun e w' => (∃ v, e = .returned v ∧ OwnS w' w.heap.size 3 1 v (stN s.data.toList s.size).length (natV (stN s.data.toList s.size))) ∧ Below w.heap.size w w' := by
  obtain ⟨i0, hi0, hz0, hz1, hz2⟩ := info_parts int_info
  obtain ⟨W, hW⟩ : ∃ W, w.alloc (.cells #[.int .i64 0] 3) = W := ⟨_, rfl⟩
  have hb : Below w.heap.size w W := by rw [← hW]; exact below_alloc _ _
  have hx : Blk W w.heap.size 3 #[.int .i64 0] := by rw [← hW]; exact Blk.new w _ _
  have ho : OwnS W w.heap.size 3 1 (.slice (some ⟨w.heap.size, 0, none⟩) 1 1) 1 (natV [0]) := OwnS.block (cur := #[.int .i64 0]) (Nat.le_refl _) hx (by simp only [maxLen]; omega) rfl
  have HB := Lib.hid hb
  have HO0 := Lib.hid ho
  clear hb hx ho
  go_enter Tryz.func21, Tryz.ntmps21
  go_wp2_with (rw [hW])
  clear hW
  go_loopg [3, 8] s.size (fun gk s3 si wr => ∃ k : Nat, k + gk = s.size ∧ si = .int .i64 k ∧ Below w.heap.size w wr ∧ OwnS wr w.heap.size 3 1 s3 (stN s.data.toList k).length (natV (stN s.data.toList k)))
  case atStart => exact ⟨0, by omega, rfl, HB.out, HO0.out⟩
  case round =>
    obtain ⟨k, hk, rfl, hB, ho⟩ := hrel
    have hk' : k ≤ s.size := by omega
    have HK := Lib.hid hk
    have HBr := Lib.hid hB
    obtain ⟨m, hm⟩ : ∃ m, (stN s.data.toList k).length = m := ⟨_, rfl⟩
    have hlen := (stN_len s.data.toList k).2
    rw [hm] at ho hlen
    obtain ⟨xs, hxs⟩ : ∃ xs, natV (stN s.data.toList k) = xs := ⟨_, rfl⟩
    rw [hxs] at ho
    have HO := Lib.hid ho
    have HM := Lib.hid hm
    have HXS := Lib.hid hxs
    have hbs := hB.size
    clear hk ho hm hxs hB
    by_cases hlt : k < s.size
    · have hc := bz_get s k hlt
      have hki : (k : Int) < s.size := by omega
      obtain ⟨c, hcb⟩ : ∃ c, bz s.data.toList k = c := ⟨_, rfl⟩
      rw [hcb] at hc
      have HCB := Lib.hid hcb
      clear hcb
      by_cases h10 : c = 10
      · subst h10
        have hst : stN s.data.toList (k + 1) = stN s.data.toList k ++ [k + 1] := by rw [stN, HCB.out, if_pos rfl]
        have HST := Lib.hid hst
        clear hst
        go_wp2_with (at_builtin; go_must (refine wpList_append_S _ rfl (.tmp 15) (.tmp 18) _ rfl w.heap.size 3 i0 _ 1 8 Tryz.underlying52 hi0 hz0 hz1 hz2 rfl u3 m xs rfl (HO.out.alloc _) ⟨wr.heap.size, 0, none⟩ 1 1 [.int .i64 ((k + 1 : Nat) : Int)] rfl rfl (news_one _ _ _ (by go_simp)) (by simp [Value.oneCell']) (by simp only [maxLen]; omega) (by omega) (by simp; omega) ?_); intro v' w4 hown hgrow hat)
        go_roundg (gk - 1)
        case measure => have := HK.out; omega
        case rel =>
          refine ⟨k + 1, by have := HK.out; omega, by go_num, ?_, ?_⟩
          · exact Below.grown (HBr.out.alloc HBr.out.size _) hgrow (by have := HBr.out.size; simp; omega) (fun g hg => (HO.out.lt g hg).1)
          · rw [HST.out]
            simp only [List.length_append, List.length_singleton, HM.out]
            unfold natV
            rw [List.map_append, show List.map (fun n : Nat => Value.int .i64 (n : Int)) (stN s.data.toList k) = xs from HXS.out]
            exact hown
      · have hne : ((c : Int) == 10) = false := by simp; omega
        have hst : stN s.data.toList (k + 1) = stN s.data.toList k := by rw [stN, HCB.out, if_neg h10, List.append_nil]
        have HST := Lib.hid hst
        clear hst h10
        go_wp2_with fail
        go_roundg (gk - 1)
        case measure => have := HK.out; omega
        case rel => exact ⟨k + 1, by have := HK.out; omega, by go_num, HBr.out, by rw [HST.out, HM.out, HXS.out]; exact HO.out⟩
    · have hkn : k = s.size := by omega
      subst hkn
      go_wp2_with fail
      go_ret
      exact ⟨⟨_, rfl, by rw [HM.out, HXS.out]; exact HO.out⟩, HBr.out⟩

set_option maxHeartbeats 4000000 in
theorem LinesR_any (s : ByteArray) (w : World) (hs : s.size ≤ 4096) :
    Calls Tryz.prog 23 #[.string s] w fun e w' => (∃ v, e = .returned v ∧ OwnS w' w.heap.size 3 1 v (stN s.data.toList s.size).length (natV (stN s.data.toList s.size))) ∧ Below w.heap.size w w' := by
  obtain ⟨i0, hi0, hz0, hz1, hz2⟩ := info_parts int_info
  obtain ⟨W, hW⟩ : ∃ W, w.alloc (.cells #[.int .i64 0] 3) = W := ⟨_, rfl⟩
  have hb : Below w.heap.size w W := by rw [← hW]; exact below_alloc _ _
  have hx : Blk W w.heap.size 3 #[.int .i64 0] := by rw [← hW]; exact Blk.new w _ _
  have ho : OwnS W w.heap.size 3 1 (.slice (some ⟨w.heap.size, 0, none⟩) 1 1) 1 (natV [0]) := OwnS.block (cur := #[.int .i64 0]) (Nat.le_refl _) hx (by simp only [maxLen]; omega) rfl
  have HB := Lib.hid hb
  have HO0 := Lib.hid ho
  clear hb hx ho
  go_enter Tryz.func23, Tryz.ntmps23
  go_wp2_with (rw [hW])
  clear hW
  go_loopg [3, 4] s.size (fun gk s3 si wr => ∃ k : Nat, k + gk = s.size ∧ si = .int .i64 k ∧ Below w.heap.size w wr ∧ OwnS wr w.heap.size 3 1 s3 (stN s.data.toList k).length (natV (stN s.data.toList k)))
  case atStart => exact ⟨0, by omega, rfl, HB.out, HO0.out⟩
  case round =>
    obtain ⟨k, hk, rfl, hB, ho⟩ := hrel
    have hk' : k ≤ s.size := by omega
    have HK := Lib.hid hk
    have HBr := Lib.hid hB
    obtain ⟨m, hm⟩ : ∃ m, (stN s.data.toList k).length = m := ⟨_, rfl⟩
    have hlen := (stN_len s.data.toList k).2
    rw [hm] at ho hlen
    obtain ⟨xs, hxs⟩ : ∃ xs, natV (stN s.data.toList k) = xs := ⟨_, rfl⟩
    rw [hxs] at ho
    have HO := Lib.hid ho
    have HM := Lib.hid hm
    have HXS := Lib.hid hxs
    have hbs := hB.size
    clear hk ho hm hxs hB
    by_cases hlt : k < s.size
    · have hc := bz_get s k hlt
      have hki : (k : Int) < s.size := by omega
      obtain ⟨c, hcb⟩ : ∃ c, bz s.data.toList k = c := ⟨_, rfl⟩
      rw [hcb] at hc
      have HCB := Lib.hid hcb
      clear hcb
      by_cases h10 : c = 10
      · subst h10
        have hst : stN s.data.toList (k + 1) = stN s.data.toList k ++ [k + 1] := by rw [stN, HCB.out, if_pos rfl]
        have HST := Lib.hid hst
        clear hst
        go_wp2_with (at_builtin; go_must (refine wpList_append_S _ rfl (.tmp 16) (.tmp 19) _ rfl w.heap.size 3 i0 _ 1 8 Tryz.underlying52 hi0 hz0 hz1 hz2 rfl u3 m xs rfl (HO.out.alloc _) ⟨wr.heap.size, 0, none⟩ 1 1 [.int .i64 ((k + 1 : Nat) : Int)] rfl rfl (news_one _ _ _ (by go_simp)) (by simp [Value.oneCell']) (by simp only [maxLen]; omega) (by omega) (by simp; omega) ?_); intro v' w4 hown hgrow hat)
        go_roundg (gk - 1)
        case measure => have := HK.out; omega
        case rel =>
          refine ⟨k + 1, by have := HK.out; omega, by go_num, ?_, ?_⟩
          · exact Below.grown (HBr.out.alloc HBr.out.size _) hgrow (by have := HBr.out.size; simp; omega) (fun g hg => (HO.out.lt g hg).1)
          · rw [HST.out]
            simp only [List.length_append, List.length_singleton, HM.out]
            unfold natV
            rw [List.map_append, show List.map (fun n : Nat => Value.int .i64 (n : Int)) (stN s.data.toList k) = xs from HXS.out]
            exact hown
      · have hne : ((c : Int) == 10) = false := by simp; omega
        have hst : stN s.data.toList (k + 1) = stN s.data.toList k := by rw [stN, HCB.out, if_neg h10, List.append_nil]
        have HST := Lib.hid hst
        clear hst h10
        go_wp2_with fail
        go_roundg (gk - 1)
        case measure => have := HK.out; omega
        case rel => exact ⟨k + 1, by have := HK.out; omega, by go_num, HBr.out, by rw [HST.out, HM.out, HXS.out]; exact HO.out⟩
    · have hkn : k = s.size := by omega
      subst hkn
      go_wp2_with fail
      go_ret
      exact ⟨⟨_, rfl, by rw [HM.out, HXS.out]; exact HO.out⟩, HBr.out⟩

end Go.Proofs.YtinpopjnnljkhaaGreatDoor
/- A line, walked: the reference's. -/
namespace Go.Proofs.YtinpopjnnljkhaaGreatDoor
open Go.RowKit

theorem natV_get {l : List Nat} {i a : Nat} (h : l[i]? = some a) : (natV l)[i]? = some (.int .i64 (a : Int)) := by
  unfold natV
  rw [List.getElem?_map, h]
  rfl
theorem getD_some {l : List Nat} {i : Nat} (h : i < l.length) : l[i]? = some (l.getD i 0) := by
  rw [List.getD_eq_getElem?_getD, List.getElem?_eq_getElem h]
  rfl

set_option maxHeartbeats 4000000 in
theorem LineR_any (s : ByteArray) (k : Nat) (w : World) (hs : s.size ≤ 4096) (hk : k ≤ 4097) :
    Calls Tryz.prog 7 #[.string s, .int .i64 (k : Int)] w fun e w' => e = .returned (.string (lineM s k)) ∧ Below w.heap.size w w' := by
  obtain ⟨n, hn⟩ : ∃ n, (stN s.data.toList s.size).length = n := ⟨_, rfl⟩
  have hn1 := (stN_len s.data.toList s.size).1
  have hn2 := (stN_len s.data.toList s.size).2
  have inv := stN_inv s.data.toList s.size
  have HLN := Lib.hid (LinesR_any s w hs)
  rw [hn] at hn1 hn2
  have HN := Lib.hid hn
  by_cases hk0 : k < 1
  · have hres : lineM s k = ⟨#[]⟩ := by unfold lineM; rw [if_pos (.inl hk0)]
    have HRES := Lib.hid hres
    have hki : (k : Int) < 1 := by omega
    clear hres hn inv
    go_enter Tryz.func7, Tryz.ntmps7
    go_wp2_with fail
    refine HLN.out.mono ?_
    rintro e w2 ⟨⟨v, rfl, ho⟩, hb2⟩
    have HB2 := Lib.hid hb2
    clear ho hb2
    go_wp2_with fail
    go_ret
    rw [HRES.out]
    exact ⟨rfl, HB2.out⟩
  by_cases hkn : n < k
  · have hres : lineM s k = ⟨#[]⟩ := by unfold lineM; rw [if_pos (.inr (by rw [hn]; exact hkn))]
    have HRES := Lib.hid hres
    have hki : ¬ (k : Int) < 1 := by omega
    have hki2 : (n : Int) < (k : Int) := by omega
    clear hres hn inv
    go_enter Tryz.func7, Tryz.ntmps7
    go_wp2_with fail
    refine HLN.out.mono ?_
    rintro e w2 ⟨⟨v, rfl, ho⟩, hb2⟩
    have HB2 := Lib.hid hb2
    rw [HN.out] at ho
    obtain ⟨g, off, cap, rfl, h1, h2, h3, h4, h5⟩ := ho.form (by omega)
    clear ho hb2 h5
    go_wp2_with fail
    go_ret
    rw [HRES.out]
    exact ⟨rfl, HB2.out⟩
  obtain ⟨j, rfl⟩ : ∃ j, k = j + 1 := ⟨k - 1, by omega⟩
  obtain ⟨a, ha⟩ : ∃ a, (stN s.data.toList s.size)[j]? = some a := ⟨_, getD_some (by omega)⟩
  have had : (stN s.data.toList s.size).getD j 0 = a := by rw [List.getD_eq_getElem?_getD, ha]; rfl
  have hae := inv.le j a ha
  have HA := Lib.hid (natV_get ha)
  have hq1 : ¬ ((j : Int) + 1 < 1) := by omega
  have hq2 : ¬ ((n : Int) < (j : Int) + 1) := by omega
  by_cases hl : j + 1 = n
  · have hres : lineM s (j + 1) = s.extract a s.size := by
      unfold lineM
      rw [hn, if_neg (by omega), if_pos hl, Nat.add_sub_cancel, had]
    have HRES := Lib.hid hres
    subst hl
    clear hres hn inv hk0 hkn ha had
    go_enter Tryz.func7, Tryz.ntmps7
    go_wp2_with fail
    refine HLN.out.mono ?_
    rintro e w2 ⟨⟨v, rfl, ho⟩, hb2⟩
    have HB2 := Lib.hid hb2
    rw [HN.out] at ho
    obtain ⟨g, off, cap, rfl, h1, h2, h3, h4, h5⟩ := ho.form (by omega)
    have hc1 := h5 j _ HA.out
    clear ho hb2 h5
    go_wp2_with fail
    go_ret
    rw [HRES.out]
    exact ⟨rfl, HB2.out⟩
  have hq3 : (j : Int) + 1 < (n : Int) := by omega
  obtain ⟨b, hb⟩ : ∃ b, (stN s.data.toList s.size)[j + 1]? = some b := ⟨_, getD_some (by omega)⟩
  have hbd : (stN s.data.toList s.size).getD (j + 1) 0 = b := by rw [List.getD_eq_getElem?_getD, hb]; rfl
  have hbe := inv.le (j + 1) b hb
  obtain ⟨hab, hb10⟩ := inv.step j a b ha hb
  have HBC := Lib.hid (natV_get hb)
  obtain ⟨e, rfl⟩ : ∃ e, b = e + 1 := ⟨b - 1, by omega⟩
  have hres : lineM s (j + 1) = s.extract a (endN s.data.toList a e) := by
    unfold lineM
    rw [hn, if_neg (by omega), if_neg hl, Nat.add_sub_cancel, had, hbd, Nat.add_sub_cancel]
  by_cases hae2 : a < e
  · obtain ⟨d, rfl⟩ : ∃ d, e = d + 1 := ⟨e - 1, by omega⟩
    have hc := bz_get s d (by omega)
    obtain ⟨c, hcb⟩ : ∃ c, bz s.data.toList d = c := ⟨_, rfl⟩
    rw [hcb] at hc
    by_cases h13 : c = 13
    · subst h13
      have hres2 : lineM s (j + 1) = s.extract a d := by
        rw [hres]; unfold endN; rw [if_pos ⟨hae2, by rw [Nat.add_sub_cancel]; exact hcb⟩, Nat.add_sub_cancel]
      have HRES := Lib.hid hres2
      clear hres hres2 hn inv hk0 hkn ha had hb hbd hcb hb10
      go_enter Tryz.func7, Tryz.ntmps7
      go_wp2_with fail
      refine HLN.out.mono ?_
      rintro e w2 ⟨⟨v, rfl, ho⟩, hb2⟩
      have HB2 := Lib.hid hb2
      rw [HN.out] at ho
      obtain ⟨g, off, cap, rfl, h1, h2, h3, h4, h5⟩ := ho.form (by omega)
      have hc1 := h5 j _ HA.out
      have hc2 := h5 (j + 1) _ HBC.out
      clear ho hb2 h5
      go_wp2_with fail
      go_ret
      rw [HRES.out]
      exact ⟨rfl, HB2.out⟩
    · have hres2 : lineM s (j + 1) = s.extract a (d + 1) := by
        rw [hres]; unfold endN; rw [if_neg (fun h => h13 (by have := h.2; rw [Nat.add_sub_cancel] at this; rw [← hcb]; exact this))]
      have HRES := Lib.hid hres2
      have hne : ((c : Int) == 13) = false := by simp; omega
      clear hres hres2 hn inv hk0 hkn ha had hb hbd hcb hb10
      go_enter Tryz.func7, Tryz.ntmps7
      go_wp2_with fail
      refine HLN.out.mono ?_
      rintro e w2 ⟨⟨v, rfl, ho⟩, hb2⟩
      have HB2 := Lib.hid hb2
      rw [HN.out] at ho
      obtain ⟨g, off, cap, rfl, h1, h2, h3, h4, h5⟩ := ho.form (by omega)
      have hc1 := h5 j _ HA.out
      have hc2 := h5 (j + 1) _ HBC.out
      clear ho hb2 h5
      go_wp2_with fail
      go_ret
      rw [HRES.out]
      exact ⟨rfl, HB2.out⟩
  · have hres2 : lineM s (j + 1) = s.extract a e := by
      rw [hres]; unfold endN; rw [if_neg (fun h => hae2 h.1)]
    have hea : a = e := by omega
    subst hea
    have HRES := Lib.hid hres2
    clear hres hres2 hn inv hk0 hkn ha had hb hbd hb10
    go_enter Tryz.func7, Tryz.ntmps7
    go_wp2_with fail
    refine HLN.out.mono ?_
    rintro e w2 ⟨⟨v, rfl, ho⟩, hb2⟩
    have HB2 := Lib.hid hb2
    rw [HN.out] at ho
    obtain ⟨g, off, cap, rfl, h1, h2, h3, h4, h5⟩ := ho.form (by omega)
    have hc1 := h5 j _ HA.out
    have hc2 := h5 (j + 1) _ HBC.out
    clear ho hb2 h5
    go_wp2_with fail
    go_ret
    rw [HRES.out]
    exact ⟨by first | rfl | simp, HB2.out⟩
end Go.Proofs.YtinpopjnnljkhaaGreatDoor
/-
  DERIVED: THE SHELF's CONTRACTS AT THIS DUMP, IN PLAIN WORDS (tools/lay-plain.mjs out of 'TryzShelfA.lean', which tools/lay-shelf.mjs wrote): THE SAME DECLARATIONS UNDER THE SAME NAMES: 'import', 'namespace', 'open', 'def', 'theorem' AND NOTHING ELSE: no command of the shelf's: FOR A HAND-IN. Each laying: the table of numbers ('.._ren') and one theorem, a field a fact of the dump's own or the kernel's comparison; each contract: ONE APPLICATION.
-/
namespace Go.Proofs
open Go.Shelf
def Tryz.lays156_ren : Go.Shelf.Ren := ⟨fun | 156 => 116 | 165 => 62 | 166 => 63 | 169 => 65 | 240 => 137 | 241 => 138 | 276 => 226 | 277 => 227 | n => n, fun | 31 => 24 | 9 => 9 | 3 => 3 | 4 => 4 | 0 => 0 | 20 => 20 | 72 => 146 | 76 => 150 | 70 => 143 | 37 => 144 | 75 => 149 | 127 => 232 | 164 => 321 | 5 => 5 | 80 => 153 | n => n, fun | n => n⟩
theorem Tryz.lays156 : Go.Proofs.Lays.n156 Tryz.prog Tryz.lays156_ren := {
  mixed := by kernel_rfl
  f156 := Tryz.func116.trans (congrArg some (by kernel_rfl))
  f165 := Tryz.func62.trans (congrArg some (by kernel_rfl))
  f166 := Tryz.func63.trans (congrArg some (by kernel_rfl))
  f169 := Tryz.func65.trans (congrArg some (by kernel_rfl))
  f240 := Tryz.func137.trans (congrArg some (by kernel_rfl))
  f241 := Tryz.func138.trans (congrArg some (by kernel_rfl))
  f276 := Tryz.func226.trans (congrArg some (by kernel_rfl))
  f277 := Tryz.func227.trans (congrArg some (by kernel_rfl))
  t0 := Tryz.underlying0
  a0 := Tryz.isAgg0
  z0 := Tryz.sizeOf0
  v0 := Tryz.zeroValue0
  t3 := Tryz.underlying3
  a3 := Tryz.isAgg3
  z3 := Tryz.sizeOf3
  v3 := Tryz.zeroValue3
  t4 := Tryz.underlying4
  a4 := Tryz.isAgg4
  z4 := Tryz.sizeOf4
  v4 := Tryz.zeroValue4
  t9 := Tryz.underlying9
  a9 := Tryz.isAgg9
  z9 := Tryz.sizeOf9
  v9 := Tryz.zeroValue9
  t20 := Tryz.underlying20
  a20 := Tryz.isAgg20
  z20 := Tryz.sizeOf20
  v20 := Tryz.zeroValue20
  t31 := Tryz.underlying24
  a31 := Tryz.isAgg24
  z31 := Tryz.sizeOf24
  v31 := Tryz.zeroValue24
  t37 := Tryz.underlying144
  a37 := Tryz.isAgg144
  z37 := Tryz.sizeOf144
  v37 := Tryz.zeroValue144
  t70 := Tryz.underlying143
  a70 := Tryz.isAgg143
  z70 := Tryz.sizeOf143
  v70 := Tryz.zeroValue143
  t72 := Tryz.underlying146
  a72 := Tryz.isAgg146
  z72 := Tryz.sizeOf146
  v72 := Tryz.zeroValue146
  t75 := Tryz.underlying149
  a75 := Tryz.isAgg149
  z75 := Tryz.sizeOf149
  v75 := Tryz.zeroValue149
  t76 := Tryz.underlying150
  a76 := Tryz.isAgg150
  z76 := Tryz.sizeOf150
  v76 := Tryz.zeroValue150
  t127 := Tryz.underlying232
  a127 := Tryz.isAgg232
  z127 := Tryz.sizeOf232
  v127 := Tryz.zeroValue232
  t164 := Tryz.underlying321
  a164 := Tryz.isAgg321
  z164 := Tryz.sizeOf321
  v164 := Tryz.zeroValue321 }
theorem Tryz.Builder_Extra_156 : Builder.Extra Tryz.prog Tryz.lays156_ren := {
  sizeBuilder := by kernel_rfl
  liesBuilder := by kernel_rfl
  t5 := Tryz.underlying5
  a5 := Tryz.isAgg5
  z5 := Tryz.sizeOf5
  v5 := Tryz.zeroValue5
  infoByte := by kernel_rfl
  cellsByte := by kernel_rfl
  sizeByte := by kernel_rfl
  neB5 := by decide }
open Go.RowKit in
/-- No element: the empty string; the world is as it was. (Whatever the slice's address and capacity: a nil slice too.) (LAID: no walk: one application.) -/
theorem Tryz.strings_Join_none (a : Option Addr) (c : Nat) (sep : ByteArray) (w : World) :
    Calls Tryz.prog 116 #[.slice a 0 c, .string sep] w fun e w' => e = .returned (.string ⟨#[]⟩) ∧ w' = w := Any.strings_Join_none Tryz.lays156 Tryz.Builder_Extra_156 a c sep w
open Go.RowKit in
/-- strings.Join: "Join concatenates the elements of its first argument to create a single string. The separator string sep is placed between elements in the resulting string.": HOWEVER MANY ELEMENTS. Below the heap's end the world is as it was. (LAID: no walk: one application.) -/
theorem Tryz.strings_Join (bk o c : Nat) (xs : List ByteArray) (sep : ByteArray) (w : World) (hcells : ∀ (j : Nat) x, xs[j]? = some x → w.cell? ⟨bk, o + j, none⟩ = some (.string x)) (hbk : bk < w.heap.size) (hN : xs.length ≤ 140737488355328) (hcap : xs.length ≤ c) (hlen : (Lib.join (xs.map (·.data.toList)) sep.data.toList).length ≤ 140737488355328) :
    Calls Tryz.prog 116 #[.slice (some ⟨bk, o, none⟩) xs.length c, .string sep] w fun e w' => e = .returned (.string ⟨(Lib.join (xs.map (·.data.toList)) sep.data.toList).toArray⟩) ∧ Below w.heap.size w w' := Any.strings_Join Tryz.lays156 Tryz.Builder_Extra_156 bk o c xs sep w hcells hbk hN hcap hlen
def Tryz.lays104_ren : Go.Shelf.Ren := ⟨fun | 104 => 52 | 211 => 126 | 207 => 222 | n => n, fun | 9 => 9 | 4 => 4 | 24 => 73 | 3 => 3 | n => n, fun | n => n⟩
theorem Tryz.lays104 : Go.Proofs.Lays.n104 Tryz.prog Tryz.lays104_ren := {
  mixed := by kernel_rfl
  f104 := Tryz.func52.trans (congrArg some (by kernel_rfl))
  f207 := Tryz.func222.trans (congrArg some (by kernel_rfl))
  f211 := Tryz.func126.trans (congrArg some (by kernel_rfl))
  t3 := Tryz.underlying3
  a3 := Tryz.isAgg3
  z3 := Tryz.sizeOf3
  v3 := Tryz.zeroValue3
  t4 := Tryz.underlying4
  a4 := Tryz.isAgg4
  z4 := Tryz.sizeOf4
  v4 := Tryz.zeroValue4
  t9 := Tryz.underlying9
  a9 := Tryz.isAgg9
  z9 := Tryz.sizeOf9
  v9 := Tryz.zeroValue9
  t24 := Tryz.underlying73
  a24 := Tryz.isAgg73
  z24 := Tryz.sizeOf73
  v24 := Tryz.zeroValue73 }
open Go.RowKit in
/-- strings.CutSuffix: "CutSuffix returns s without the provided ending suffix string and reports whether it found the suffix. If s doesn't end with suffix, CutSuffix returns s, false. If suffix is the empty string, CutSuffix returns s, true.": IT RETURNS '(Lib.trimSuffix s p, Lib.hasSuffix s p)'; the world is as it was. (LAID: no walk: one application.) -/
theorem Tryz.strings_CutSuffix (s p : ByteArray) (w : World) (hs : s.size ≤ 9223372036854775807) :
    Calls Tryz.prog 52 #[.string s, .string p] w fun e w' => e = .returned (.tuple #[.string ⟨(Lib.trimSuffix s.data.toList p.data.toList).toArray⟩, .bool (Lib.hasSuffix s.data.toList p.data.toList)]) ∧ w' = w := Any.strings_CutSuffix Tryz.lays104 s p w hs
def Tryz.lays138_ren : Go.Shelf.Ren := ⟨fun | 138 => 58 | 195 => 130 | 218 => 131 | 143 => 132 | 219 => 225 | 217 => 316 | 225 => 317 | 224 => 318 | 267 => 319 | 266 => 416 | 314 => 417 | n => n, fun | 9 => 9 | 3 => 3 | 4 => 4 | 5 => 5 | 0 => 0 | 46 => 139 | 146 => 227 | 51 => 226 | n => n, fun | 1 => 0 | n => n⟩
theorem Tryz.lays138 : Go.Proofs.Lays.n138 Tryz.prog Tryz.lays138_ren := {
  mixed := by kernel_rfl
  f138 := Tryz.func58.trans (congrArg some (by kernel_rfl))
  f143 := Tryz.func132.trans (congrArg some (by kernel_rfl))
  f195 := Tryz.func130.trans (congrArg some (by kernel_rfl))
  f217 := Tryz.func316.trans (congrArg some (by kernel_rfl))
  f218 := Tryz.func131.trans (congrArg some (by kernel_rfl))
  f219 := Tryz.func225.trans (congrArg some (by kernel_rfl))
  f224 := Tryz.func318.trans (congrArg some (by kernel_rfl))
  f225 := Tryz.func317.trans (congrArg some (by kernel_rfl))
  f266 := Tryz.func416.trans (congrArg some (by kernel_rfl))
  f267 := Tryz.func319.trans (congrArg some (by kernel_rfl))
  f314 := Tryz.func417.trans (congrArg some (by kernel_rfl))
  t0 := Tryz.underlying0
  a0 := Tryz.isAgg0
  z0 := Tryz.sizeOf0
  v0 := Tryz.zeroValue0
  t3 := Tryz.underlying3
  a3 := Tryz.isAgg3
  z3 := Tryz.sizeOf3
  v3 := Tryz.zeroValue3
  t4 := Tryz.underlying4
  a4 := Tryz.isAgg4
  z4 := Tryz.sizeOf4
  v4 := Tryz.zeroValue4
  t5 := Tryz.underlying5
  a5 := Tryz.isAgg5
  z5 := Tryz.sizeOf5
  v5 := Tryz.zeroValue5
  t9 := Tryz.underlying9
  a9 := Tryz.isAgg9
  z9 := Tryz.sizeOf9
  v9 := Tryz.zeroValue9
  t46 := Tryz.underlying139
  a46 := Tryz.isAgg139
  z46 := Tryz.sizeOf139
  v46 := Tryz.zeroValue139
  t51 := Tryz.underlying226
  a51 := Tryz.isAgg226
  z51 := Tryz.sizeOf226
  v51 := Tryz.zeroValue226
  t146 := Tryz.underlying227
  a146 := Tryz.isAgg227
  z146 := Tryz.sizeOf227
  v146 := Tryz.zeroValue227
  g1 := by kernel_rfl }
open Go.RowKit Go.Lib in
/-- strings.Count AT A substr OF ONE BYTE ('hp'): "Count counts the number of non-overlapping instances of substr in s.": IT RETURNS 'Lib.countByte s (that byte)'; the world is as it was. ✋ NO CONTRACT HERE YET at an empty substr (utf8.RuneCountInString) or at a longer one (a loop over strings.Index). (LAID: no walk: one application.) -/
theorem Tryz.strings_Count_one (s : ByteArray) (c : UInt8) (w : World) :
    Calls Tryz.prog 58 #[.string s, .string ⟨#[c]⟩] w fun e w' => e = .returned (.int .i64 (Lib.countByte s.data.toList c)) ∧ w' = w := Any.strings_Count_one Tryz.lays138 s c w
def Tryz.lays189_ren : Go.Shelf.Ren := ⟨fun | 189 => 241 | 125 => 343 | 257 => 342 | 128 => 460 | 129 => 410 | 294 => 451 | 295 => 452 | 296 => 453 | 297 => 454 | 298 => 455 | 299 => 456 | 216 => 457 | 300 => 458 | 301 => 459 | 328 => 511 | 329 => 512 | 330 => 513 | 331 => 514 | 332 => 515 | 215 => 57 | 343 => 532 | n => n, fun | 28 => 52 | 3 => 3 | 46 => 139 | 0 => 0 | 51 => 226 | 53 => 229 | 4 => 4 | 183 => 485 | 182 => 484 | 131 => 261 | 5 => 5 | 9 => 9 | 218 => 506 | 222 => 379 | 228 => 524 | 229 => 91 | n => n, fun | n => n⟩
theorem Tryz.lays189 : Go.Proofs.Lays.n189 Tryz.prog Tryz.lays189_ren := {
  mixed := by kernel_rfl
  f125 := Tryz.func343.trans (congrArg some (by kernel_rfl))
  f128 := Tryz.func460.trans (congrArg some (by kernel_rfl))
  f129 := Tryz.func410.trans (congrArg some (by kernel_rfl))
  f189 := Tryz.func241.trans (congrArg some (by kernel_rfl))
  f215 := Tryz.func57.trans (congrArg some (by kernel_rfl))
  f216 := Tryz.func457.trans (congrArg some (by kernel_rfl))
  f257 := Tryz.func342.trans (congrArg some (by kernel_rfl))
  f294 := Tryz.func451.trans (congrArg some (by kernel_rfl))
  f295 := Tryz.func452.trans (congrArg some (by kernel_rfl))
  f296 := Tryz.func453.trans (congrArg some (by kernel_rfl))
  f297 := Tryz.func454.trans (congrArg some (by kernel_rfl))
  f298 := Tryz.func455.trans (congrArg some (by kernel_rfl))
  f299 := Tryz.func456.trans (congrArg some (by kernel_rfl))
  f300 := Tryz.func458.trans (congrArg some (by kernel_rfl))
  f301 := Tryz.func459.trans (congrArg some (by kernel_rfl))
  f328 := Tryz.func511.trans (congrArg some (by kernel_rfl))
  f329 := Tryz.func512.trans (congrArg some (by kernel_rfl))
  f330 := Tryz.func513.trans (congrArg some (by kernel_rfl))
  f331 := Tryz.func514.trans (congrArg some (by kernel_rfl))
  f332 := Tryz.func515.trans (congrArg some (by kernel_rfl))
  f343 := Tryz.func532.trans (congrArg some (by kernel_rfl))
  t0 := Tryz.underlying0
  a0 := Tryz.isAgg0
  z0 := Tryz.sizeOf0
  v0 := Tryz.zeroValue0
  t3 := Tryz.underlying3
  a3 := Tryz.isAgg3
  z3 := Tryz.sizeOf3
  v3 := Tryz.zeroValue3
  t4 := Tryz.underlying4
  a4 := Tryz.isAgg4
  z4 := Tryz.sizeOf4
  v4 := Tryz.zeroValue4
  t5 := Tryz.underlying5
  a5 := Tryz.isAgg5
  z5 := Tryz.sizeOf5
  v5 := Tryz.zeroValue5
  t9 := Tryz.underlying9
  a9 := Tryz.isAgg9
  z9 := Tryz.sizeOf9
  v9 := Tryz.zeroValue9
  t28 := Tryz.underlying52
  a28 := Tryz.isAgg52
  z28 := Tryz.sizeOf52
  v28 := Tryz.zeroValue52
  t46 := Tryz.underlying139
  a46 := Tryz.isAgg139
  z46 := Tryz.sizeOf139
  v46 := Tryz.zeroValue139
  t51 := Tryz.underlying226
  a51 := Tryz.isAgg226
  z51 := Tryz.sizeOf226
  v51 := Tryz.zeroValue226
  t53 := Tryz.underlying229
  a53 := Tryz.isAgg229
  z53 := Tryz.sizeOf229
  v53 := Tryz.zeroValue229
  t131 := Tryz.underlying261
  a131 := Tryz.isAgg261
  z131 := Tryz.sizeOf261
  v131 := Tryz.zeroValue261
  t182 := Tryz.underlying484
  a182 := Tryz.isAgg484
  z182 := Tryz.sizeOf484
  v182 := Tryz.zeroValue484
  t183 := Tryz.underlying485
  a183 := Tryz.isAgg485
  z183 := Tryz.sizeOf485
  v183 := Tryz.zeroValue485
  t218 := Tryz.underlying506
  a218 := Tryz.isAgg506
  z218 := Tryz.sizeOf506
  v218 := Tryz.zeroValue506
  t222 := Tryz.underlying379
  a222 := Tryz.isAgg379
  z222 := Tryz.sizeOf379
  v222 := Tryz.zeroValue379
  t228 := Tryz.underlying524
  a228 := Tryz.isAgg524
  z228 := Tryz.sizeOf524
  v228 := Tryz.zeroValue524
  t229 := Tryz.underlying91
  a229 := Tryz.isAgg91
  z229 := Tryz.sizeOf91
  v229 := Tryz.zeroValue91 }
open Go.Sort Go.RowKit in
theorem Tryz.slices_Sort_int (blk off cap : Nat) (zs : List Int) (w : World) (hH : Holds (Value.int .i64) w blk off zs.toArray) (hblk : blk < w.heap.size) (hsz : zs.length < 4611686018427387904) :
    Calls Tryz.prog 241 #[.slice (some ⟨blk, off, none⟩) zs.length cap] w fun e w' =>
      e = .returned (.tuple #[]) ∧ ∃ n os, w' = grow (putRow (Value.int .i64) (Sort.ahead w n) blk off (zs.mergeSort fun x y => decide (x ≤ y)).toArray) os := Any.slices_Sort_int Tryz.lays189 blk off cap zs w hH hblk hsz
def Tryz.lays102_ren : Go.Shelf.Ren := ⟨fun | 102 => 53 | 209 => 127 | 207 => 222 | n => n, fun | 9 => 9 | 4 => 4 | 3 => 3 | n => n, fun | n => n⟩
theorem Tryz.lays102 : Go.Proofs.Lays.n102 Tryz.prog Tryz.lays102_ren := {
  mixed := by kernel_rfl
  f102 := Tryz.func53.trans (congrArg some (by kernel_rfl))
  f207 := Tryz.func222.trans (congrArg some (by kernel_rfl))
  f209 := Tryz.func127.trans (congrArg some (by kernel_rfl))
  t3 := Tryz.underlying3
  a3 := Tryz.isAgg3
  z3 := Tryz.sizeOf3
  v3 := Tryz.zeroValue3
  t4 := Tryz.underlying4
  a4 := Tryz.isAgg4
  z4 := Tryz.sizeOf4
  v4 := Tryz.zeroValue4
  t9 := Tryz.underlying9
  a9 := Tryz.isAgg9
  z9 := Tryz.sizeOf9
  v9 := Tryz.zeroValue9 }
open Go.RowKit Go.Lib in
/-- strings.TrimSuffix: "TrimSuffix returns s without the provided trailing suffix string. If s doesn't end with suffix, s is returned unchanged.": IT RETURNS 'Lib.trimSuffix s suffix'; the world is as it was. (LAID: no walk: one application.) -/
theorem Tryz.strings_TrimSuffix (s p : ByteArray) (w : World) (hs : s.size ≤ 9223372036854775807) :
    Calls Tryz.prog 53 #[.string s, .string p] w fun e w' => e = .returned (.string ⟨(Lib.trimSuffix s.data.toList p.data.toList).toArray⟩) ∧ w' = w := Any.strings_TrimSuffix Tryz.lays102 s p w hs
def Tryz.lays105_ren : Go.Shelf.Ren := ⟨fun | 105 => 31 | 212 => 60 | 99 => 61 | 165 => 62 | 166 => 63 | 170 => 64 | 169 => 65 | 263 => 134 | 264 => 135 | 206 => 136 | 240 => 137 | 241 => 138 | 276 => 226 | 277 => 227 | n => n, fun | 9 => 9 | 3 => 3 | 4 => 4 | 20 => 20 | 0 => 0 | 46 => 139 | 109 => 140 | 5 => 5 | 72 => 146 | 76 => 150 | 51 => 226 | 146 => 227 | 53 => 229 | 148 => 230 | 70 => 143 | 37 => 144 | 75 => 149 | 127 => 232 | 164 => 321 | 80 => 153 | n => n, fun | n => n⟩
theorem Tryz.lays105 : Go.Proofs.Lays.n105 Tryz.prog Tryz.lays105_ren := {
  mixed := by kernel_rfl
  f99 := Tryz.func61.trans (congrArg some (by kernel_rfl))
  f105 := Tryz.func31.trans (congrArg some (by kernel_rfl))
  f165 := Tryz.func62.trans (congrArg some (by kernel_rfl))
  f166 := Tryz.func63.trans (congrArg some (by kernel_rfl))
  f169 := Tryz.func65.trans (congrArg some (by kernel_rfl))
  f170 := Tryz.func64.trans (congrArg some (by kernel_rfl))
  f206 := Tryz.func136.trans (congrArg some (by kernel_rfl))
  f212 := Tryz.func60.trans (congrArg some (by kernel_rfl))
  f240 := Tryz.func137.trans (congrArg some (by kernel_rfl))
  f241 := Tryz.func138.trans (congrArg some (by kernel_rfl))
  f263 := Tryz.func134.trans (congrArg some (by kernel_rfl))
  f264 := Tryz.func135.trans (congrArg some (by kernel_rfl))
  f276 := Tryz.func226.trans (congrArg some (by kernel_rfl))
  f277 := Tryz.func227.trans (congrArg some (by kernel_rfl))
  t0 := Tryz.underlying0
  a0 := Tryz.isAgg0
  z0 := Tryz.sizeOf0
  v0 := Tryz.zeroValue0
  t3 := Tryz.underlying3
  a3 := Tryz.isAgg3
  z3 := Tryz.sizeOf3
  v3 := Tryz.zeroValue3
  t4 := Tryz.underlying4
  a4 := Tryz.isAgg4
  z4 := Tryz.sizeOf4
  v4 := Tryz.zeroValue4
  t5 := Tryz.underlying5
  a5 := Tryz.isAgg5
  z5 := Tryz.sizeOf5
  v5 := Tryz.zeroValue5
  t9 := Tryz.underlying9
  a9 := Tryz.isAgg9
  z9 := Tryz.sizeOf9
  v9 := Tryz.zeroValue9
  t20 := Tryz.underlying20
  a20 := Tryz.isAgg20
  z20 := Tryz.sizeOf20
  v20 := Tryz.zeroValue20
  t37 := Tryz.underlying144
  a37 := Tryz.isAgg144
  z37 := Tryz.sizeOf144
  v37 := Tryz.zeroValue144
  t46 := Tryz.underlying139
  a46 := Tryz.isAgg139
  z46 := Tryz.sizeOf139
  v46 := Tryz.zeroValue139
  t51 := Tryz.underlying226
  a51 := Tryz.isAgg226
  z51 := Tryz.sizeOf226
  v51 := Tryz.zeroValue226
  t53 := Tryz.underlying229
  a53 := Tryz.isAgg229
  z53 := Tryz.sizeOf229
  v53 := Tryz.zeroValue229
  t70 := Tryz.underlying143
  a70 := Tryz.isAgg143
  z70 := Tryz.sizeOf143
  v70 := Tryz.zeroValue143
  t72 := Tryz.underlying146
  a72 := Tryz.isAgg146
  z72 := Tryz.sizeOf146
  v72 := Tryz.zeroValue146
  t75 := Tryz.underlying149
  a75 := Tryz.isAgg149
  z75 := Tryz.sizeOf149
  v75 := Tryz.zeroValue149
  t76 := Tryz.underlying150
  a76 := Tryz.isAgg150
  z76 := Tryz.sizeOf150
  v76 := Tryz.zeroValue150
  t109 := Tryz.underlying140
  a109 := Tryz.isAgg140
  z109 := Tryz.sizeOf140
  v109 := Tryz.zeroValue140
  t127 := Tryz.underlying232
  a127 := Tryz.isAgg232
  z127 := Tryz.sizeOf232
  v127 := Tryz.zeroValue232
  t146 := Tryz.underlying227
  a146 := Tryz.isAgg227
  z146 := Tryz.sizeOf227
  v146 := Tryz.zeroValue227
  t148 := Tryz.underlying230
  a148 := Tryz.isAgg230
  z148 := Tryz.sizeOf230
  v148 := Tryz.zeroValue230
  t164 := Tryz.underlying321
  a164 := Tryz.isAgg321
  z164 := Tryz.sizeOf321
  v164 := Tryz.zeroValue321 }
theorem Tryz.Builder_Extra_105 : Builder.Extra Tryz.prog Tryz.lays105_ren := {
  sizeBuilder := by kernel_rfl
  liesBuilder := by kernel_rfl
  t5 := Tryz.underlying5
  a5 := Tryz.isAgg5
  z5 := Tryz.sizeOf5
  v5 := Tryz.zeroValue5
  infoByte := by kernel_rfl
  cellsByte := by kernel_rfl
  sizeByte := by kernel_rfl
  neB5 := by decide }
open Go.RowKit Go.Lib in
/-- **strings.Repeat: count ≥ 0, the result within one allocation: count copies of s.** (LAID: no walk: one application.) -/
theorem Tryz.strings_Repeat (s : ByteArray) (c : Nat) (w : World) (hc : c ≤ 9223372036854775807) (hlen : s.size * c ≤ 140737488355328) :
    Calls Tryz.prog 31 #[.string s, .int .i64 c] w fun e w' => e = .returned (.string ⟨(Lib.repeatL s.data.toList c).toArray⟩) ∧ Below w.heap.size w w' := Any.strings_Repeat Tryz.lays105 Tryz.Builder_Extra_105 s c w hc hlen
open Go.RowKit Go.Sort in
/-- slices.Sort of no element. -/
theorem Tryz.slices_Sort_int_none (p : Option Addr) (cap : Nat) (w : World) :
    Calls Tryz.prog 241 #[.slice p 0 cap] w fun e w' => e = .returned (.tuple #[]) ∧ w' = w := Any.slices_Sort_int_none Tryz.lays189 p cap w
end Go.Proofs
/- A text's last byte: CutSuffix and TrimSuffix at one byte. -/
namespace Go.Proofs.YtinpopjnnljkhaaGreatDoor
open Go.RowKit

theorem suf_nil (c : UInt8) : Lib.hasSuffix [] [c] = false := rfl
theorem suf_snoc (x : List UInt8) (y c : UInt8) : Lib.hasSuffix (x ++ [y]) [c] = (y == c) := by
  unfold Lib.hasSuffix
  rw [Bool.eq_iff_iff, List.isSuffixOf_iff_suffix, beq_iff_eq]
  constructor
  · rintro ⟨t, h⟩
    have := (List.append_inj' h rfl).2
    simpa using this.symm
  · rintro rfl
    exact ⟨x, rfl⟩
theorem trim_snoc (x : List UInt8) (y c : UInt8) : Lib.trimSuffix (x ++ [y]) [c] = if y = c then x else x ++ [y] := by
  unfold Lib.trimSuffix
  rw [suf_snoc]
  by_cases h : y = c
  · simp [h]
  · have : (y == c) = false := beq_eq_false_iff_ne.2 h
    rw [this, if_neg h]
    rfl
theorem trim_nil (c : UInt8) : Lib.trimSuffix [] [c] = [] := rfl
theorem ext_data (s : ByteArray) (a b : Nat) : (s.extract a b).data.toList = (s.data.toList.drop a).take (b - a) := by
  rw [Lib.extract_data]
theorem ext_snoc (s : ByteArray) {a e : Nat} (h1 : a ≤ e) (h2 : e < s.size) : ∃ y : UInt8, (s.extract a (e + 1)).data.toList = (s.extract a e).data.toList ++ [y] ∧ y.toNat = bz s.data.toList e := by
  have hl : e < s.data.toList.length := by rw [len_size]; exact h2
  refine ⟨s.data.toList[e], ?_, ?_⟩
  · rw [ext_data, ext_data, show e + 1 - a = (e - a) + 1 by omega, List.take_add_one]
    congr 1
    rw [List.getElem?_drop, show a + (e - a) = e by omega, List.getElem?_eq_getElem hl]
    rfl
  · unfold bz
    rw [List.getD_eq_getElem?_getD, List.getElem?_eq_getElem hl]
    rfl
theorem mk_data (s : ByteArray) : (⟨s.data.toList.toArray⟩ : ByteArray) = s := by simp
theorem ext_nil (s : ByteArray) (a : Nat) : (s.extract a a).data.toList = [] := by rw [ext_data]; simp

theorem Cut_yes (s : ByteArray) {a e : Nat} (h1 : a ≤ e) (h2 : e < s.size) (h10 : bz s.data.toList e = 10) (hs : s.size ≤ 4096) (w : World) :
    Calls Tryz.prog 52 #[.string (s.extract a (e + 1)), .string ⟨#[10]⟩] w fun r w' => r = .returned (.tuple #[.string (s.extract a e), .bool true]) ∧ w' = w := by
  obtain ⟨y, hy, hy2⟩ := ext_snoc s h1 h2
  have hy3 : y = 10 := by
    apply UInt8.toNat_inj.1
    rw [hy2, h10]
    rfl
  refine (Tryz.strings_CutSuffix (s.extract a (e + 1)) ⟨#[10]⟩ w (by rw [ByteArray.size_extract]; omega)).mono ?_
  rintro r w' ⟨rfl, rfl⟩
  refine ⟨?_, rfl⟩
  rw [show (⟨#[10]⟩ : ByteArray).data.toList = [10] from rfl, hy, trim_snoc, suf_snoc, if_pos hy3, hy3, mk_data]
  rfl
theorem Cut_no (t : ByteArray) (h : t.data.toList = [] ∨ ∃ x y, t.data.toList = x ++ [y] ∧ y.toNat ≠ 10) (hs : t.size ≤ 4096) (w : World) :
    Calls Tryz.prog 52 #[.string t, .string ⟨#[10]⟩] w fun r w' => r = .returned (.tuple #[.string t, .bool false]) ∧ w' = w := by
  refine (Tryz.strings_CutSuffix t ⟨#[10]⟩ w (by omega)).mono ?_
  rintro r w' ⟨rfl, rfl⟩
  refine ⟨?_, rfl⟩
  rcases h with h | ⟨x, y, h, hy⟩
  · rw [show (⟨#[10]⟩ : ByteArray).data.toList = [10] from rfl, h, trim_nil, suf_nil, ← h, mk_data]
  · have hy3 : ¬ y = 10 := fun e => hy (by rw [e]; rfl)
    have hy4 : (y == 10) = false := beq_eq_false_iff_ne.2 hy3
    rw [show (⟨#[10]⟩ : ByteArray).data.toList = [10] from rfl, h, trim_snoc, suf_snoc, if_neg hy3, hy4, ← h, mk_data]
theorem Trim_any (s : ByteArray) {a e : Nat} (h1 : a ≤ e) (h2 : e ≤ s.size) (hs : s.size ≤ 4096) (w : World) :
    Calls Tryz.prog 53 #[.string (s.extract a e), .string ⟨#[13]⟩] w fun r w' => r = .returned (.string (s.extract a (endN s.data.toList a e))) ∧ w' = w := by
  refine (Tryz.strings_TrimSuffix (s.extract a e) ⟨#[13]⟩ w (by rw [ByteArray.size_extract]; omega)).mono ?_
  rintro r w' ⟨rfl, rfl⟩
  refine ⟨?_, rfl⟩
  rw [show (⟨#[13]⟩ : ByteArray).data.toList = [13] from rfl]
  by_cases hae : a < e
  · obtain ⟨d, rfl⟩ : ∃ d, e = d + 1 := ⟨e - 1, by omega⟩
    obtain ⟨y, hy, hy2⟩ := ext_snoc s (show a ≤ d by omega) (by omega)
    rw [hy, trim_snoc]
    unfold endN
    rw [Nat.add_sub_cancel, ← hy2]
    by_cases h13 : y = 13
    · subst h13
      rw [if_pos rfl, if_pos ⟨hae, rfl⟩, mk_data]
    · rw [if_neg h13, if_neg (fun h => h13 (UInt8.toNat_inj.1 h.2)), ← hy, mk_data]
  · have : a = e := by omega
    subst this
    unfold endN
    rw [if_neg (fun h => hae h.1), ext_nil, trim_nil, ← ext_nil s a, mk_data]
end Go.Proofs.YtinpopjnnljkhaaGreatDoor
/- The program's bounds and Line, walked. -/
namespace Go.Proofs.YtinpopjnnljkhaaGreatDoor
open Go.RowKit

set_option maxHeartbeats 4000000 in
theorem bounds_any (s : ByteArray) (k : Nat) (w : World) (hs : s.size ≤ 4096) (hk : k ≤ 4097) :
    Calls Tryz.prog 51 #[.string s, .int .i64 (k : Int)] w fun e w' => ((k < 1 ∨ (stN s.data.toList s.size).length < k) ∧ e = .returned (.tuple #[.int .i64 0, .int .i64 0, .bool false]) ∨
      (1 ≤ k ∧ k = (stN s.data.toList s.size).length ∧ ∃ a : Nat, (stN s.data.toList s.size)[k - 1]? = some a ∧ e = .returned (.tuple #[.int .i64 (a : Int), .int .i64 (s.size : Int), .bool true])) ∨
      (1 ≤ k ∧ k < (stN s.data.toList s.size).length ∧ ∃ a b : Nat, (stN s.data.toList s.size)[k - 1]? = some a ∧ (stN s.data.toList s.size)[k]? = some b ∧ e = .returned (.tuple #[.int .i64 (a : Int), .int .i64 (b : Int), .bool true]))) ∧ Below w.heap.size w w' := by
  obtain ⟨n, hn⟩ : ∃ n, (stN s.data.toList s.size).length = n := ⟨_, rfl⟩
  have hn1 := (stN_len s.data.toList s.size).1
  have hn2 := (stN_len s.data.toList s.size).2
  have HLN := Lib.hid (Lines_any s w hs)
  rw [hn] at hn1 hn2
  rw [hn]
  have HN := Lib.hid hn
  by_cases hk0 : k < 1
  · have hki : (k : Int) < 1 := by omega
    clear hn
    go_enter Tryz.func51, Tryz.ntmps51
    go_wp2_with fail
    refine HLN.out.mono ?_
    rintro e w2 ⟨⟨v, rfl, ho⟩, hb2⟩
    have HB2 := Lib.hid hb2
    clear ho hb2
    go_wp2_with fail
    refine bodyPost_ret (v := .tuple #[.int .i64 0, .int .i64 0, .bool false]) (by simp [results, Tryz.results51, go_sem]) rfl ?_
    exact ⟨.inl ⟨.inl hk0, rfl⟩, HB2.out⟩
  by_cases hkn : n < k
  · have hki : ¬ (k : Int) < 1 := by omega
    have hki2 : (n : Int) < (k : Int) := by omega
    clear hn
    go_enter Tryz.func51, Tryz.ntmps51
    go_wp2_with fail
    refine HLN.out.mono ?_
    rintro e w2 ⟨⟨v, rfl, ho⟩, hb2⟩
    have HB2 := Lib.hid hb2
    rw [HN.out] at ho
    obtain ⟨g, off, cap, rfl, h1, h2, h3, h4, h5⟩ := ho.form (by omega)
    clear ho hb2 h5
    go_wp2_with fail
    refine bodyPost_ret (v := .tuple #[.int .i64 0, .int .i64 0, .bool false]) (by simp [results, Tryz.results51, go_sem]) rfl ?_
    exact ⟨.inl ⟨.inr hkn, rfl⟩, HB2.out⟩
  obtain ⟨j, rfl⟩ : ∃ j, k = j + 1 := ⟨k - 1, by omega⟩
  obtain ⟨a, ha⟩ : ∃ a, (stN s.data.toList s.size)[j]? = some a := ⟨_, getD_some (by omega)⟩
  have HA := Lib.hid (natV_get ha)
  have HA2 := Lib.hid ha
  have hq1 : ¬ ((j : Int) + 1 < 1) := by omega
  have hq2 : ¬ ((n : Int) < (j : Int) + 1) := by omega
  by_cases hl : j + 1 = n
  · subst hl
    clear hn hk0 hkn ha
    go_enter Tryz.func51, Tryz.ntmps51
    go_wp2_with fail
    refine HLN.out.mono ?_
    rintro e w2 ⟨⟨v, rfl, ho⟩, hb2⟩
    have HB2 := Lib.hid hb2
    rw [HN.out] at ho
    obtain ⟨g, off, cap, rfl, h1, h2, h3, h4, h5⟩ := ho.form (by omega)
    have hc1 := h5 j _ HA.out
    clear ho hb2 h5
    go_wp2_with fail
    refine bodyPost_ret (v := .tuple #[.int .i64 (a : Int), .int .i64 (s.size : Int), .bool true]) (by simp [results, Tryz.results51, go_sem]) rfl ?_
    exact ⟨.inr (.inl ⟨by omega, by first | rfl | trivial, a, HA2.out, rfl⟩), HB2.out⟩
  have hq3 : (j : Int) + 1 < (n : Int) := by omega
  have hq4 : ¬ ((j : Int) + 1 = (n : Int)) := by omega
  have hq5 : (((j : Int) + 1) == (n : Int)) = false := by simp; omega
  obtain ⟨b, hb⟩ : ∃ b, (stN s.data.toList s.size)[j + 1]? = some b := ⟨_, getD_some (by omega)⟩
  have HBC := Lib.hid (natV_get hb)
  have HB3 := Lib.hid hb
  clear hn hk0 hkn ha hb
  go_enter Tryz.func51, Tryz.ntmps51
  go_wp2_with fail
  refine HLN.out.mono ?_
  rintro e w2 ⟨⟨v, rfl, ho⟩, hb2⟩
  have HB2 := Lib.hid hb2
  rw [HN.out] at ho
  obtain ⟨g, off, cap, rfl, h1, h2, h3, h4, h5⟩ := ho.form (by omega)
  have hc1 := h5 j _ HA.out
  have hc2 := h5 (j + 1) _ HBC.out
  clear ho hb2 h5
  go_wp2_with fail
  go_quiet (fail)
  go_wp2_with fail
  refine bodyPost_ret (v := .tuple #[.int .i64 (a : Int), .int .i64 (b : Int), .bool true]) (by simp [results, Tryz.results51, go_sem]) rfl ?_
  exact ⟨.inr (.inr ⟨by omega, by omega, a, b, HA2.out, HB3.out, rfl⟩), below_drewN HB2.out _⟩
end Go.Proofs.YtinpopjnnljkhaaGreatDoor
/- A line, walked: the program's. -/
namespace Go.Proofs.YtinpopjnnljkhaaGreatDoor
open Go.RowKit

set_option maxHeartbeats 4000000 in
theorem Line_any (s : ByteArray) (k : Nat) (w : World) (hs : s.size ≤ 4096) (hk : k ≤ 4097) :
    Calls Tryz.prog 22 #[.string s, .int .i64 (k : Int)] w fun e w' => e = .returned (.string (lineM s k)) ∧ Below w.heap.size w w' := by
  have HBO := Lib.hid (bounds_any s k w hs hk)
  have inv := stN_inv s.data.toList s.size
  obtain ⟨n, hn⟩ : ∃ n, (stN s.data.toList s.size).length = n := ⟨_, rfl⟩
  have HN := Lib.hid hn
  have INV := Lib.hid inv
  clear hn inv
  go_enter Tryz.func22, Tryz.ntmps22
  go_wp2_with fail
  refine HBO.out.mono ?_
  rintro e w2 ⟨hcase, hb2⟩
  have HB2 := Lib.hid hb2
  clear hb2
  rw [HN.out] at hcase
  rcases hcase with ⟨h1, rfl⟩ | ⟨h1, hkn, a, ha, rfl⟩ | ⟨h1, hkn, a, b, ha, hb, rfl⟩
  · have hres : lineM s k = ⟨#[]⟩ := by unfold lineM; rw [HN.out, if_pos h1]
    have HRES := Lib.hid hres
    clear hres h1
    go_wp2_with fail
    go_ret
    rw [HRES.out]
    exact ⟨rfl, HB2.out⟩
  · have hae := INV.out.le _ a ha
    have had : (stN s.data.toList s.size).getD (k - 1) 0 = a := by rw [List.getD_eq_getElem?_getD, ha]; rfl
    have hres : lineM s k = s.extract a s.size := by unfold lineM; rw [HN.out, if_neg (by omega), if_pos hkn, had]
    have hcut : ∀ w, Calls Tryz.prog 52 #[.string (s.extract a s.size), .string ⟨#[10]⟩] w fun r w' => r = .returned (.tuple #[.string (s.extract a s.size), .bool false]) ∧ w' = w := fun w => by
      refine Cut_no _ ?_ (by rw [ByteArray.size_extract]; omega) w
      by_cases hlt : a < s.size
      · obtain ⟨e, he⟩ : ∃ e, s.size = e + 1 := ⟨s.size - 1, by omega⟩
        obtain ⟨y, hy, hy2⟩ := ext_snoc s (show a ≤ e by omega) (show e < s.size by omega)
        right
        rw [he]
        refine ⟨_, y, hy, ?_⟩
        rw [hy2]
        refine INV.out.last a ?_ e (by omega) (by omega)
        rw [HN.out, ← hkn]
        exact ha
      · left
        rw [show a = s.size by omega]
        exact ext_nil s _
    have HCUT := Lib.hid hcut
    have HRES := Lib.hid hres
    clear hres had hcut ha h1 hkn
    go_wp2_with fail
    refine (HCUT.out _).mono ?_
    rintro e w3 ⟨rfl, rfl⟩
    go_wp2_with fail
    go_ret
    rw [HRES.out]
    exact ⟨rfl, HB2.out⟩
  · obtain ⟨j, rfl⟩ : ∃ j, k = j + 1 := ⟨k - 1, by omega⟩
    have hae := INV.out.le _ a ha
    have hbe := INV.out.le _ b hb
    rw [Nat.add_sub_cancel] at ha
    obtain ⟨hab, hb10⟩ := INV.out.step j a b ha hb
    obtain ⟨e, rfl⟩ : ∃ e, b = e + 1 := ⟨b - 1, by omega⟩
    rw [Nat.add_sub_cancel] at hb10
    have had : (stN s.data.toList s.size).getD j 0 = a := by rw [List.getD_eq_getElem?_getD, ha]; rfl
    have hbd : (stN s.data.toList s.size).getD (j + 1) 0 = e + 1 := by rw [List.getD_eq_getElem?_getD, hb]; rfl
    have hres : lineM s (j + 1) = s.extract a (endN s.data.toList a e) := by
      unfold lineM
      rw [HN.out, if_neg (by omega), if_neg (by omega), Nat.add_sub_cancel, had, hbd, Nat.add_sub_cancel]
    have hcut := Cut_yes s (show a ≤ e by omega) (show e < s.size by omega) hb10 hs
    have htrim := Trim_any s (show a ≤ e by omega) (show e ≤ s.size by omega) hs
    have HCUT := Lib.hid hcut
    have HTRIM := Lib.hid htrim
    have HRES := Lib.hid hres
    clear hres had hbd hcut htrim ha hb h1 hkn hb10
    go_wp2_with fail
    refine (HCUT.out _).mono ?_
    rintro r w3 ⟨rfl, rfl⟩
    go_wp2_with fail
    refine (HTRIM.out _).mono ?_
    rintro r w3 ⟨rfl, rfl⟩
    go_wp2_with fail
    go_ret
    rw [HRES.out]
    exact ⟨rfl, HB2.out⟩
end Go.Proofs.YtinpopjnnljkhaaGreatDoor
