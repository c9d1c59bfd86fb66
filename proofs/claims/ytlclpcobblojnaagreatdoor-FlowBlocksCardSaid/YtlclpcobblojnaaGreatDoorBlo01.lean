/- FlowBlocks: for every flow the law returns true and its argument reads as before; no condition but that the listed tables are laid, which the card ties to the text. Part 1 of 8. -/
import Derived.Test.YtlclpcobblojnaaGreatDoorProg
import Derived.WalkKit
import Derived.WalkSpells
import Derived.WalkLawsBesides
import Derived.Deep.QuietTactic
import Derived.BigQuiet
import Derived.Lib.Hide
import Derived.Deep.AppendSrc
import Derived.Deep.AppendLies
import Derived.Deep.Draws
import Derived.Deep.Upon
import Derived.Deep.LoopGhost
import Derived.Deep.RegionHeld3
import Derived.Deep.RegionLaw
import Derived.Deep.DeepCutAuto
import Derived.Deep.DeepFit
import Derived.BigRegion
import Derived.StillTailTactics
import Derived.Maps.Own
import Derived.StillTail
import Derived.Lib.SliceRun
import Derived.Deep.DeepMust
/- The base: bools, old cells. -/
namespace Go.Proofs.YtlclpcobblojnaaGreatDoor
open Go.RowKit

theorem ret_bool {a b : Bool} (h : a = b) : Ending.returned (.bool a) = .returned (.bool b) := by rw [h]
theorem ret_int {k : IntKind} {a b : Int} (h : a = b) : Ending.returned (.int k a) = .returned (.int k b) := by rw [h]

theorem bcell {W w1 : World} (hb : Below W.heap.size W w1) : (∀ b o, b < W.heap.size → w1.cell? ⟨b, o, none⟩ = W.cell? ⟨b, o, none⟩) ∧ (∀ b o, b < W.heap.size → w1.frozen? ⟨b, o, none⟩ = W.frozen? ⟨b, o, none⟩) :=
  ⟨fun b o h => hb.cell (p := ⟨b, o, none⟩) h, fun b o h => hb.frozen (p := ⟨b, o, none⟩) h⟩
theorem below_drewN {B : Nat} {a w : World} (h : Below B a w) (n : Nat) : Below B a (w.drewN n) := ⟨h.os, h.tape, h.output, h.size, h.block⟩

end Go.Proofs.YtlclpcobblojnaaGreatDoor
/- Words for memory: rows that are read through a slice value; slices of the call's own, wherever they begin in their block; append to them. No program is named here. -/
namespace Go.Proofs.YtlclpcobblojnaaGreatDoor
open Go.RowKit

/-- The rows 'cells c', c in l, are read through a slice at A, all of them in blocks below B. -/
def RowAt {α : Type} (size : Nat) (cells : α → List Value) (w : World) (B : Nat) (A : Option Addr) (l : List α) : Prop :=
  ∀ k c, l[k]? = some c → ∃ b off, A = some ⟨b, off, none⟩ ∧ b < B ∧ ∀ j v, (cells c)[j]? = some v → w.cell? ⟨b, off + k * size + j, none⟩ = some v

theorem RowAt.below {α : Type} {size : Nat} {cells : α → List Value} {w w' : World} {B B' : Nat} {A : Option Addr} {l : List α} (h : RowAt size cells w B A l) (hb : Below B' w w') (hB : B ≤ B') :
    RowAt size cells w' B A l := by
  intro k c hk
  obtain ⟨b, off, hA, hlt, hc⟩ := h k c hk
  exact ⟨b, off, hA, hlt, fun j v hj => (hb.cell (p := ⟨b, _, none⟩) (by show b < B'; omega)).trans (hc j v hj)⟩

theorem RowAt.mono {α : Type} {size : Nat} {cells : α → List Value} {w : World} {B B' : Nat} {A : Option Addr} {l : List α} (h : RowAt size cells w B A l) (hB : B ≤ B') : RowAt size cells w B' A l := by
  intro k c hk
  obtain ⟨b, off, hA, hlt, hc⟩ := h k c hk
  exact ⟨b, off, hA, by omega, hc⟩

/-- Block g is just the cells cs, none frozen. -/
def Blk (w : World) (g : Nat) (t : TypeId) (cs : Array Value) : Prop := w.heap[g]? = some (.cells cs t (0, 0))

section
variable {w w' : World} {g : Nat} {t : TypeId} {cs : Array Value}
theorem Blk.lt (h : Blk w g t cs) : g < w.heap.size := (Array.getElem?_eq_some_iff.1 h).1
theorem Blk.cell (h : Blk w g t cs) (i : Nat) : w.cell? ⟨g, i, none⟩ = cs[i]? := cell_of_row w g i cs t (0, 0) h
theorem Blk.frozen (h : Blk w g t cs) (i : Nat) : w.frozen? ⟨g, i, none⟩ = false := by
  unfold Blk at h
  simp [World.frozen?, h]
theorem Blk.keep (h : Blk w g t cs) (hk : w'.heap[g]? = w.heap[g]?) : Blk w' g t cs := hk.trans h
theorem Blk.new (w : World) (t : TypeId) (cs : Array Value) : Blk (w.alloc (.cells cs t)) w.heap.size t cs := heap_alloc_new w _
theorem Blk.drew (h : Blk w g t cs) : Blk w.drew g t cs := h
theorem Blk.drewN (h : Blk w g t cs) (n : Nat) : Blk (w.drewN n) g t cs := h
theorem Blk.alloc (h : Blk w g t cs) (o : Obj) : Blk (w.alloc o) g t cs := h.keep (Below.heap_alloc w o g h.lt)
theorem Blk.set_ (h : Blk w g t cs) (i : Nat) (u : Value) : Blk (w.setCell ⟨g, i, none⟩ u) g t (cs.setIfInBounds i u) := by
  unfold Blk at h ⊢
  simp [World.setCell, Array.getElem?_modify, h]
theorem Blk.set2 {a b : Value} (h : Blk w g t #[a, b]) (x y : Value) : Blk ((w.setCell ⟨g, 0, none⟩ x).setCell ⟨g, 1, none⟩ y) g t #[x, y] := by
  have := (h.set_ 0 x).set_ 1 y
  simpa using this
theorem Blk.far (h : Blk w g t cs) {p : Addr} (hp : g ≠ p.block) (u : Value) : Blk (w.setCell p u) g t cs := h.keep (Below.heap_setCell w p u g hp)
theorem Blk.below {B : Nat} (h : Blk w g t cs) (hb : Below B w w') (hg : g < B) : Blk w' g t cs := h.keep (hb.block g hg)
theorem Blk.grown {row : Option Nat} (h : Blk w g t cs) (hb : w.grownBy w' row) (hg : some g ≠ row) : Blk w' g t cs := h.keep (hb.block g h.lt hg)
end

/-- A slice of the call's own: nil, or a stretch of a block from 'base' on. -/
def OwnS (w : World) (base : Nat) (e : TypeId) (size : Nat) (v : Value) (n : Nat) (xs : List Value) : Prop :=
  xs.length = n * size ∧ ((v = .slice none 0 0 ∧ n = 0) ∨
    ∃ g off cap cur, v = .slice (some ⟨g, off, none⟩) n cap ∧ base ≤ g ∧ w.heap[g]? = some (.cells cur e (0, 0)) ∧ n ≤ cap ∧ cap ≤ maxLen ∧ off + cap * size ≤ cur.size ∧ (cur.toList.drop off).take (n * size) = xs)

section
variable {w w' : World} {base : Nat} {e : TypeId} {size : Nat} {v : Value} {n : Nat} {xs : List Value}

theorem OwnS.nil (w : World) (base : Nat) (e : TypeId) (size : Nat) : OwnS w base e size (.slice none 0 0) 0 [] := ⟨by simp, .inl ⟨rfl, rfl⟩⟩

theorem OwnS.of_row (h : w.ownsRow base e size v n xs) : OwnS w base e size v n xs := by
  refine ⟨h.1, ?_⟩
  rcases h.2 with h0 | ⟨g, cap, cur, hv, hb, hg, hn, hm, hs, ht⟩
  · exact .inl h0
  · exact .inr ⟨g, 0, cap, cur, hv, hb, hg, hn, hm, by omega, by simpa using ht⟩

/-- A block of the call's own, seen whole. -/
theorem OwnS.block {g : Nat} {cur : Array Value} {n : Nat} (hb : base ≤ g) (hg : w.heap[g]? = some (.cells cur e (0, 0))) (hm : n ≤ maxLen) (hs : cur.size = n * size) : OwnS w base e size (.slice (some ⟨g, 0, none⟩) n n) n cur.toList :=
  ⟨by simpa using hs, .inr ⟨g, 0, n, cur, rfl, hb, hg, Nat.le_refl _, hm, by omega, by rw [List.drop_zero, List.take_of_length_le (by simp; omega)]⟩⟩

theorem OwnS.lt (h : OwnS w base e size v n xs) : ∀ k, v.ownBlock = some k → base ≤ k ∧ k < w.heap.size := by
  intro k hk
  rcases h.2 with ⟨rfl, _⟩ | ⟨g, off, cap, cur, rfl, hb, hg, _⟩
  · simp [Value.ownBlock] at hk
  · simp [Value.ownBlock] at hk
    subst hk
    exact ⟨hb, (Array.getElem?_eq_some_iff.1 hg).1⟩

theorem OwnS.form (h : OwnS w base e size v n xs) (hn : 0 < n) : ∃ g off cap, v = .slice (some ⟨g, off, none⟩) n cap ∧ n ≤ cap ∧ cap ≤ maxLen ∧ base ≤ g ∧ g < w.heap.size ∧ ∀ j u, xs[j]? = some u → w.cell? ⟨g, off + j, none⟩ = some u := by
  rcases h.2 with ⟨_, h0⟩ | ⟨g, off, cap, cur, hv, hb, hg, hn, hm, hs, ht⟩
  · omega
  · refine ⟨g, off, cap, hv, hn, hm, hb, (Array.getElem?_eq_some_iff.1 hg).1, fun j u hu => ?_⟩
    rw [cell_of_row w g (off + j) cur e (0, 0) hg]
    rw [← ht, List.getElem?_take] at hu
    split at hu
    · rw [List.getElem?_drop] at hu
      simpa using hu
    · cases hu

theorem OwnS.shape (h : OwnS w base e size v n xs) : ∃ A c, v = .slice A n c ∧ n ≤ c ∧ c ≤ maxLen := by
  rcases h.2 with ⟨rfl, rfl⟩ | ⟨g, off, cap, cur, hv, hb, hg, hn, hm, hs, ht⟩
  · exact ⟨none, 0, rfl, Nat.le_refl _, by simp [maxLen]⟩
  · exact ⟨_, _, hv, hn, hm⟩

theorem OwnS.of_block (h : OwnS w base e size v n xs) (hk : ∀ g, v.ownBlock = some g → w'.heap[g]? = w.heap[g]?) : OwnS w' base e size v n xs := by
  refine ⟨h.1, ?_⟩
  rcases h.2 with h0 | ⟨g, off, cap, cur, hv, hb, hg, rest⟩
  · exact .inl h0
  · exact .inr ⟨g, off, cap, cur, hv, hb, (hk g (by rw [hv]; rfl)).trans hg, rest⟩

theorem OwnS.kept {row : Option Nat} (h : OwnS w base e size v n xs) (hg : w.grownBy w' row) (hne : v.ownBlock = none ∨ v.ownBlock ≠ row) : OwnS w' base e size v n xs :=
  h.of_block fun g hv => hg.block g (h.lt g hv).2 (by rcases hne with h0 | h0 <;> simp_all)

theorem OwnS.below {B : Nat} (h : OwnS w base e size v n xs) (hb : Below B w w') (hlt : ∀ g, v.ownBlock = some g → g < B) : OwnS w' base e size v n xs :=
  h.of_block fun g hv => hb.block g (hlt g hv)

theorem OwnS.alloc (h : OwnS w base e size v n xs) (o : Obj) : OwnS (w.alloc o) base e size v n xs :=
  h.of_block fun g hv => Below.heap_alloc w o g (h.lt g hv).2

theorem OwnS.drew (h : OwnS w base e size v n xs) : OwnS w.drew base e size v n xs := h
theorem OwnS.drewN (h : OwnS w base e size v n xs) (k : Nat) : OwnS (w.drewN k) base e size v n xs := h

theorem OwnS.setCell (h : OwnS w base e size v n xs) {p : Addr} (hp : v.ownBlock ≠ some p.block) (u : Value) : OwnS (w.setCell p u) base e size v n xs :=
  h.of_block fun g hv => Below.heap_setCell w p u g (fun e1 => hp (by rw [hv, e1]))

theorem OwnS.mono {base' : Nat} (h : OwnS w base e size v n xs) (hb : base' ≤ base) : OwnS w base' e size v n xs := by
  refine ⟨h.1, ?_⟩
  rcases h.2 with h0 | ⟨g, off, cap, cur, hv, hb', rest⟩
  · exact .inl h0
  · exact .inr ⟨g, off, cap, cur, hv, by omega, rest⟩

/-- Nothing is written: its elements stand in blocks below the heap's size. -/
theorem OwnS.rowAt {α : Type} {cells : α → List Value} {l : List α} (h : OwnS w base e size v n xs) {A : Option Addr} {c : Nat} (hv : v = .slice A n c) (hxs : xs = l.flatMap cells) (hl : ∀ c ∈ l, (cells c).length = size) (hn : l.length = n) :
    RowAt size cells w w.heap.size A l := by
  intro k x hk
  have hkn : k < n := by rw [← hn]; exact (List.getElem?_eq_some_iff.1 hk).1
  obtain ⟨g, off, cap, hv', _, _, _, hlt, hc⟩ := h.form (by omega)
  rw [hv] at hv'
  cases hv'
  refine ⟨g, off, rfl, hlt, fun j u hj => ?_⟩
  rw [Nat.add_assoc]
  refine hc _ _ ?_
  subst hxs
  clear h hv hlt hc hkn hn
  induction l generalizing k with
  | nil => simp at hk
  | cons y ys ih =>
    have hy := hl y (by simp)
    have hjs : j < (cells x).length := (List.getElem?_eq_some_iff.1 hj).1
    rw [List.flatMap_cons]
    cases k with
    | zero =>
      simp at hk
      subst hk
      rw [List.getElem?_append_left (by omega), ← hj]
      simp
    | succ k =>
      rw [List.getElem?_append_right (by rw [hy, Nat.succ_mul]; omega), hy]
      have := ih (fun c hc => hl c (by simp [hc])) k (by simpa using hk)
      rw [← this]
      congr 1
      rw [Nat.succ_mul]
      omega
end

section
variable {P : Program} (w : World)

theorem run_append_room_off (t ty e : TypeId) (i : TypeInfo) (ht : P.underlying t = some (.slice e)) (hi : P.info? e = some i)
    (g off sLen sCap : Nat) (cur : Array Value) (hg : w.heap[g]? = some (.cells cur e (0, 0)))
    (a : Addr) (m c : Nat) (news : List Value) (hl : news.length = m * i.size) (hnews : ∀ j u, news[j]? = some u → w.cell? (a.add j) = some u) (h1 : ∀ u ∈ news, u.oneCell' = true)
    (hroom : sLen + m ≤ sCap) (hfit : off + sLen * i.size + news.length ≤ cur.size) :
    (Builtin.append_ #[t, t] ty #[.slice (some ⟨g, off, none⟩) sLen sCap, .slice (some a) m c]).run P w =
      .ok (.slice (some ⟨g, off, none⟩) (sLen + m) sCap) (w.setRow g (cur.toList.take (off + sLen * i.size) ++ news ++ cur.toList.drop (off + sLen * i.size + news.length)).toArray) := by
  have hf := run_firstCells_some (P := P) w i.size m a m c news hl hnews
  have hst := run_storeCells_at P g (off + sLen * i.size) e news 0 cur w hg (by simpa using hfit) h1
  simp only [Nat.add_zero] at hst
  simp [Builtin.append_, run_underlying ht, sizeOf, typeInfo, hi, Builtin.lenOf, hroom, hf, Addr.add_lit, hst]

theorem run_slice_from (t e : TypeId) (i : TypeInfo) (ht : P.underlying t = some (.slice e)) (hi : P.info? e = some i) (a : Option Addr) (len cap k : Nat) (hk : k ≤ len) :
    (Instr.slice t (.slice a len cap) (some (.int .i64 (k : Int))) none none).run P w = .ok (.slice (if cap = k then a else a.map (·.add (k * i.size))) (len - k) (cap - k)) w := by
  have h : ¬ len < k := by omega
  simp [Instr.slice, run_underlying ht, Instr.sliceBounds, Instr.sliceBound, asIntOf, sizeOf, typeInfo, hi]
  exact fun h' => absurd h' h

/-- append to a slice of the call's own, wherever it begins: the new one owns the cells and the new ones; only its old block and new ones have turned. -/
theorem run_append_S (base : Nat) (t ty e : TypeId) (i : TypeInfo) (z : Value) (size bytes : Nat) (ht : P.underlying t = some (.slice e)) (hi : P.info? e = some i) (hz : i.zero = some z)
    (hsize : i.size = size) (hby : i.bytes = bytes) (hzs : z.cells.size = size)
    (v : Value) (n : Nat) (xs : List Value) (hown : OwnS w base e size v n xs)
    (a : Addr) (m c : Nat) (news : List Value) (hl : news.length = m * size) (hnews : ∀ j u, news[j]? = some u → w.cell? (a.add j) = some u) (h1 : ∀ u ∈ news, u.oneCell' = true)
    (h63 : n + m ≤ maxLen) (hbytes : (n + m) * bytes ≤ 140737488355328) (hbase : base ≤ w.heap.size) :
    ∃ v' w', (Builtin.append_ #[t, t] ty #[v, .slice (some a) m c]).run P w = .ok v' w' ∧ OwnS w' base e size v' (n + m) (xs ++ news) ∧ w.grownBy w' v.ownBlock ∧
      (v'.ownBlock = v.ownBlock ∨ v'.ownBlock = some w.heap.size) := by
  subst hsize
  subst hby
  have hsmall : n + m ≤ 9223372036854775807 := by simp only [maxLen] at h63; omega
  have hlen : (xs ++ news).length = (n + m) * i.size := by rw [List.length_append, hown.1, hl, Nat.add_mul]
  have grown : ∀ (old : Nat), old < n + m → ∀ (row : Option Nat),
      OwnS (w.drew.alloc (.cells (xs.toArray ++ news.toArray ++ Builtin.zeroCells z.cells (grownCap w (n + m) old e - (n + m))) e)) base e i.size
        (.slice (some ⟨w.heap.size, 0, none⟩) (n + m) (grownCap w (n + m) old e)) (n + m) (xs ++ news) ∧
      w.grownBy (w.drew.alloc (.cells (xs.toArray ++ news.toArray ++ Builtin.zeroCells z.cells (grownCap w (n + m) old e - (n + m))) e)) row := by
    intro old ho row
    have hge := grownCap_ge w (n + m) old e
    have hcm : grownCap w (n + m) old e ≤ maxLen := grownCap_le_maxLen w (n + m) old e h63
    refine ⟨⟨hlen, .inr ⟨w.heap.size, 0, _, _, rfl, hbase, heap_alloc_new w.drew _, hge, hcm, ?_, ?_⟩⟩, ⟨rfl, rfl, rfl, by simp, fun k hk _ => Below.heap_alloc w.drew _ k hk⟩⟩
    · simp only [Array.size_append, List.size_toArray, size_zeroCells, hzs, hown.1, hl, ← Nat.add_mul]
      rw [Nat.zero_add]
      exact Nat.mul_le_mul_right _ (by omega)
    · simp only [Array.toList_append, List.append_assoc, List.drop_zero]
      rw [← List.append_assoc, ← hlen]
      exact List.take_left
  rcases hown.2 with ⟨rfl, rfl⟩ | ⟨g, off, cap, cur, rfl, hbg, hg, hnc, hcm, hcs, htake⟩
  · have hx : xs = [] := List.eq_nil_of_length_eq_zero (by simpa using hown.1)
    subst hx
    by_cases hm : m = 0
    · subst hm
      have hn : news = [] := List.eq_nil_of_length_eq_zero (by simpa using hl)
      subst hn
      refine ⟨.slice none 0 0, w, ?_, OwnS.nil w base e i.size, ⟨rfl, rfl, rfl, Nat.le_refl _, fun _ _ _ => rfl⟩, .inl rfl⟩
      simp [Builtin.append_, run_underlying ht, sizeOf, typeInfo, hi, Builtin.lenOf, Builtin.firstCells, loadCells, loadCellsFrom]
    · have hr := run_append_nil (P := P) w t ty e i z ht hi hz a m c news hl hnews (by omega) (by omega) (by have hb := hbytes; simp only [Nat.zero_add] at hb; omega)
      have hgr := grown 0 (by omega) (Value.ownBlock (.slice none 0 0))
      simp only [Nat.zero_add, List.nil_append, Array.empty_append] at hgr ⊢
      exact ⟨_, _, hr, hgr.1, hgr.2, .inr rfl⟩
  · by_cases hroom : n + m ≤ cap
    · have hfit : off + n * i.size + news.length ≤ cur.size := by
        rw [hl]
        have h2 : (n + m) * i.size ≤ cap * i.size := Nat.mul_le_mul_right _ hroom
        rw [Nat.add_mul] at h2
        omega
      have hr := run_append_room_off (P := P) w t ty e i ht hi g off n cap cur hg a m c news hl hnews h1 hroom hfit
      refine ⟨_, _, hr, ⟨hlen, .inr ⟨g, off, cap, _, rfl, hbg, setRow_heap w g cur _ e _ hg, hroom, hcm, ?_, ?_⟩⟩, ⟨rfl, rfl, rfl, by simp, fun k _ hk => setRow_other w g k _ (fun e => hk (by simp [Value.ownBlock, e]))⟩, .inl rfl⟩
      · simp only [List.size_toArray, List.length_append, List.length_take, List.length_drop, Array.length_toList]
        omega
      · rw [← htake, Nat.add_mul, ← hl]
        have hoff : off ≤ (cur.toList.take (off + n * i.size)).length := by simp; omega
        rw [List.append_assoc, List.drop_append_of_le_length hoff, List.drop_take, Nat.add_sub_cancel_left]
        have hk : (List.take (n * i.size) (List.drop off cur.toList)).length = n * i.size := by simp; omega
        rw [← List.append_assoc]
        exact List.take_left' (by rw [List.length_append, hk])
    · have holds : ∀ j u, xs[j]? = some u → w.cell? ((⟨g, off, none⟩ : Addr).add j) = some u := by
        intro j u hu
        have hjn : j < n * i.size := by rw [← hown.1]; exact (List.getElem?_eq_some_iff.1 hu).1
        have hn0 : 0 < n := Nat.pos_of_ne_zero (by rintro rfl; simp at hjn)
        obtain ⟨g', off', cap', hv', _, _, _, _, hc⟩ := hown.form hn0
        cases hv'
        rw [Addr.add_lit]
        exact hc j u hu
      have hr := run_append_grow (P := P) w t ty e i z ht hi hz ⟨g, off, none⟩ n cap xs hown.1 holds a m c news hl hnews (by omega) (by omega) (growslice_fits (by omega) hbytes)
      have hgr := grown cap (by omega) (Value.ownBlock (.slice (some ⟨g, off, none⟩) n cap))
      exact ⟨_, _, hr, hgr.1, hgr.2, .inr rfl⟩

theorem wp_append_S {o : Oper} {a : Act} {K : Act → World → Prop} {Q : Exit → Act → World → Prop} (s x : Operand) (t : TypeId)
    (ho : o.op = .call { callee := .builtin .append, args := #[s, x], argTypes := #[t, t] })
    (base : Nat) (e : TypeId) (i : TypeInfo) (z : Value) (size bytes : Nat) (ht : P.underlying t = some (.slice e)) (hi : P.info? e = some i) (hz : i.zero = some z)
    (hsize : i.size = size) (hby : i.bytes = bytes) (hzs : z.cells.size = size)
    (v : Value) (n : Nat) (xs : List Value) (hs : a.eval s = v) (hown : OwnS w base e size v n xs)
    (ad : Addr) (m c : Nat) (news : List Value) (hx : a.eval x = .slice (some ad) m c) (hl : news.length = m * size) (hnews : ∀ j u, news[j]? = some u → w.cell? (ad.add j) = some u) (h1 : ∀ u ∈ news, u.oneCell' = true)
    (h63 : n + m ≤ maxLen) (hbytes : (n + m) * bytes ≤ 140737488355328) (hbase : base ≤ w.heap.size)
    (h : ∀ v' w', OwnS w' base e size v' (n + m) (xs ++ news) → w.grownBy w' v.ownBlock → (v'.ownBlock = v.ownBlock ∨ v'.ownBlock = some w.heap.size) → K (a.put o.dst v') w') : o.wp P a w K Q := by
  obtain ⟨v', w', hr, h2, h3, h4⟩ := run_append_S (P := P) w base t o.type e i z size bytes ht hi hz hsize hby hzs v n xs hown ad m c news hl hnews h1 h63 hbytes hbase
  unfold Oper.wp execOp
  simp only [ho, resolve, invoke, builtin, Sem.run_bind, Sem.run_pure, Result.andThen_ok, List.map_toArray, List.map_cons, List.map_nil, hs, hx, hr]
  exact h v' w' h2 h3 h4

theorem wpList_append_S {ops : Array Oper} {rest : List Oper} {o : Oper} {a : Act} {Q : Exit → Act → World → Prop} (hgd : o.guard = none) (s x : Operand) (t : TypeId)
    (ho : o.op = .call { callee := .builtin .append, args := #[s, x], argTypes := #[t, t] })
    (base : Nat) (e : TypeId) (i : TypeInfo) (z : Value) (size bytes : Nat) (ht : P.underlying t = some (.slice e)) (hi : P.info? e = some i) (hz : i.zero = some z)
    (hsize : i.size = size) (hby : i.bytes = bytes) (hzs : z.cells.size = size)
    (v : Value) (n : Nat) (xs : List Value) (hs : a.eval s = v) (hown : OwnS w base e size v n xs)
    (ad : Addr) (m c : Nat) (news : List Value) (hx : a.eval x = .slice (some ad) m c) (hl : news.length = m * size) (hnews : ∀ j u, news[j]? = some u → w.cell? (ad.add j) = some u) (h1 : ∀ u ∈ news, u.oneCell' = true)
    (h63 : n + m ≤ maxLen) (hbytes : (n + m) * bytes ≤ 140737488355328) (hbase : base ≤ w.heap.size)
    (h : ∀ v' w', OwnS w' base e size v' (n + m) (xs ++ news) → w.grownBy w' v.ownBlock → (v'.ownBlock = v.ownBlock ∨ v'.ownBlock = some w.heap.size) → wpList P ops Q rest (a.put o.dst v') w') : wpList P ops Q (o :: rest) a w :=
  wpList_plain hgd fun _ hK => wp_append_S w s x t ho base e i z size bytes ht hi hz hsize hby hzs v n xs hs hown ad m c news hx hl hnews h1 h63 hbytes hbase fun v' w' h2 h3 h4 => hK _ _ (h v' w' h2 h3 h4)

theorem step_append_S {ops : Array Oper} {o : Oper} {a : Act} {K : Act → World → Prop} {Q : Exit → Act → World → Prop} {E : Prop} (hgd : o.guard = none) (s x : Operand) (t : TypeId)
    (ho : o.op = .call { callee := .builtin .append, args := #[s, x], argTypes := #[t, t] })
    (base : Nat) (e : TypeId) (i : TypeInfo) (z : Value) (size bytes : Nat) (ht : P.underlying t = some (.slice e)) (hi : P.info? e = some i) (hz : i.zero = some z)
    (hsize : i.size = size) (hby : i.bytes = bytes) (hzs : z.cells.size = size)
    (v : Value) (n : Nat) (xs : List Value) (hs : a.eval s = v) (hown : OwnS w base e size v n xs)
    (ad : Addr) (m c : Nat) (news : List Value) (hx : a.eval x = .slice (some ad) m c) (hl : news.length = m * size) (hnews : ∀ j u, news[j]? = some u → w.cell? (ad.add j) = some u) (h1 : ∀ u ∈ news, u.oneCell' = true)
    (h63 : n + m ≤ maxLen) (hbytes : (n + m) * bytes ≤ 140737488355328) (hbase : base ≤ w.heap.size)
    (h : ∀ v' w', OwnS w' base e size v' (n + m) (xs ++ news) → w.grownBy w' v.ownBlock → (v'.ownBlock = v.ownBlock ∨ v'.ownBlock = some w.heap.size) → K (a.put o.dst v') w') :
    if Region.wanted o (yielded ops a.tmps) = true then Oper.wp P o a w K Q else E := by
  have hw : Region.wanted o (yielded ops a.tmps) = true := by simp [Region.wanted, hgd]
  rw [if_pos hw]
  exact wp_append_S w s x t ho base e i z size bytes ht hi hz hsize hby hzs v n xs hs hown ad m c news hx hl hnews h1 h63 hbytes hbase h

end

end Go.Proofs.YtlclpcobblojnaaGreatDoor
/- Maps keyed by ints: a block that is a map reads as a function from keys to values; look-up and store. No program is named here. -/
namespace Go.Proofs.YtlclpcobblojnaaGreatDoor
open Go.RowKit

def isKey (k : Int) (e : MapEntry) : Bool :=
  match e.key with
  | .int .i64 j => decide (k = j)
  | _ => false

def valAt (es : List MapEntry) (k : Int) : Option Value := (es.find? (isKey k)).map (·.val)

def intKeys (es : List MapEntry) : Prop := ∀ e ∈ es, ∃ k, e.key = .int .i64 k

theorem findNow_int (k : Int) : ∀ (es : List MapEntry) (i : Nat), intKeys es →
    Instr.findNow (.int .i64) (.int .i64 k) es i = some ((es.findIdx? (isKey k)).bind fun j => (es[j]?).map fun e => (i + j, e.val)) := by
  intro es
  induction es with
  | nil => intro i _; rfl
  | cons e es ih =>
    intro i hk
    obtain ⟨j, hj⟩ := hk e (by simp)
    have hes : intKeys es := fun e he => hk e (by simp [he])
    by_cases h : k = j
    · subst h
      simp [Instr.findNow, Instr.sameNow, hj, isKey, List.findIdx?_cons]
    · have h2 : (k == j) = false := by simpa using h
      simp only [Instr.findNow, Instr.sameNow, hj, if_true, h2]
      rw [ih (i + 1) hes]
      have hki : isKey k e = false := by simp [isKey, hj, h]
      simp only [List.findIdx?_cons, hki, Bool.false_eq_true, if_false]
      cases hx : es.findIdx? (isKey k) with
      | none => rfl
      | some x => simp [Nat.add_comm, Nat.add_left_comm]

/-- Block r is a map keyed by ints that holds f. -/
def IMap (w : World) (r : Nat) (f : Int → Option Value) : Prop :=
  ∃ es clock, w.heap[r]? = some (.map es clock) ∧ intKeys es.toList ∧ ∀ k, valAt es.toList k = f k

section
variable {w w' : World} {r : Nat} {f : Int → Option Value}
theorem IMap.keep (h : IMap w r f) (hk : w'.heap[r]? = w.heap[r]?) : IMap w' r f := by
  obtain ⟨es, clock, h1, h2⟩ := h
  exact ⟨es, clock, hk.trans h1, h2⟩
theorem IMap.lt (h : IMap w r f) : r < w.heap.size := by
  obtain ⟨es, clock, h1, _⟩ := h
  exact (Array.getElem?_eq_some_iff.1 h1).1
theorem IMap.alloc (h : IMap w r f) (o : Obj) : IMap (w.alloc o) r f := h.keep (Below.heap_alloc w o r h.lt)
theorem IMap.drew (h : IMap w r f) : IMap w.drew r f := h
theorem IMap.drewN (h : IMap w r f) (n : Nat) : IMap (w.drewN n) r f := h
theorem IMap.setCell (h : IMap w r f) {p : Addr} (hp : r ≠ p.block) (u : Value) : IMap (w.setCell p u) r f := h.keep (Below.heap_setCell w p u r hp)
theorem IMap.below {B : Nat} (h : IMap w r f) (hb : Below B w w') (hg : r < B) : IMap w' r f := h.keep (hb.block r hg)
theorem IMap.grown {row : Option Nat} (h : IMap w r f) (hb : w.grownBy w' row) (hg : some r ≠ row) : IMap w' r f := h.keep (hb.block r h.lt hg)
theorem IMap.made (w : World) : IMap (w.alloc (.map #[] 0)) w.heap.size (fun _ => none) := ⟨#[], 0, heap_alloc_new w _, by intro e he; simp at he, fun k => rfl⟩
end

section
variable {P : Program} {w : World} {t kt et : TypeId} {r : Nat} {f : Int → Option Value}

theorem run_findKey_int (hk : P.underlying kt = some (.int .i64)) (k : Int) (es : List MapEntry) (h : intKeys es) (w : World) :
    (Instr.findKey kt (.int .i64 k) es).run P w = .ok ((es.findIdx? (isKey k)).bind fun j => (es[j]?).map fun e => (j, e.val)) w := by
  simp [Instr.findKey, run_underlying hk, findNow_int k es 0 h]

theorem run_checkKey_int (b : Bool) (n : Nat) (hk : P.underlying kt = some (.int .i64)) (k : Int) (w : World) : (Instr.checkKey b (n + 1) kt (.int .i64 k)).run P w = .ok () w := by
  simp [Instr.checkKey, run_underlying hk]

theorem valAt_idx (es : List MapEntry) (k : Int) : valAt es k = (es.findIdx? (isKey k)).bind fun j => (es[j]?).map (·.val) := by
  unfold valAt
  induction es with
  | nil => rfl
  | cons e es ih =>
    by_cases h : isKey k e = true
    · simp [List.findIdx?_cons, h]
    · simp only [List.find?_cons, List.findIdx?_cons, h, if_false, Bool.false_eq_true]
      rw [ih]
      cases es.findIdx? (isKey k) <;> simp

theorem run_lookup_int (ht : P.underlying t = some (.map kt et)) (hk : P.underlying kt = some (.int .i64)) {z : Value} (hz : ∀ w, (zeroValue et).run P w = .ok z w) (h : IMap w r f) (k : Int) :
    (Instr.lookup t (.map (some r)) (.int .i64 k) false).run P w = .ok ((f k).getD z) w := by
  obtain ⟨es, clock, h1, h2, h3⟩ := h
  have h4 := h3 k
  rw [valAt_idx] at h4
  simp [Instr.lookup, run_underlying ht, MapKept.run_getObj_map h1, run_checkKey_int _ _ hk, run_findKey_int hk k es.toList h2]
  cases hx : es.toList.findIdx? (isKey k) with
  | none =>
    rw [hx] at h4
    simp at h4
    rw [← h4]
    simp [hz]
  | some j =>
    rw [hx] at h4
    have hj : j < es.toList.length := by
      have := List.findIdx?_eq_some_iff_getElem.1 hx
      exact this.1
    simp only [Option.bind_some, List.getElem?_eq_getElem hj, Option.map_some] at h4 ⊢
    rw [← h4]
    have hj' : j < es.size := by simpa using hj
    simp [Array.getElem?_eq_getElem hj']

theorem valAt_cons (e : MapEntry) (es : List MapEntry) (k : Int) : valAt (e :: es) k = if isKey k e = true then some e.val else valAt es k := by
  unfold valAt
  by_cases h : isKey k e = true
  · simp [h]
  · simp [h]

theorem valAt_modify (k j : Int) (v : Value) : ∀ (es : List MapEntry) (i : Nat), es.findIdx? (isKey k) = some i → intKeys es →
    valAt (es.modify i fun e => { e with key := .int .i64 k, val := v }) j = if j = k then some v else valAt es j := by
  intro es
  induction es with
  | nil => intro i h; simp at h
  | cons e es ih =>
    intro i h hk
    obtain ⟨q, hq⟩ := hk e (by simp)
    rw [List.findIdx?_cons] at h
    by_cases hke : isKey k e = true
    · rw [if_pos hke] at h
      cases h
      have hqk : k = q := by
        unfold isKey at hke
        rw [hq] at hke
        simpa using hke
      subst hqk
      rw [List.modify_zero_cons, valAt_cons, valAt_cons]
      have h1 : isKey j { e with key := .int .i64 k, val := v } = decide (j = k) := rfl
      have h2 : isKey j e = decide (j = k) := by unfold isKey; rw [hq]
      rw [h1, h2]
      by_cases hj : j = k <;> simp [hj]
    · rw [if_neg hke] at h
      cases hx : es.findIdx? (isKey k) with
      | none => rw [hx] at h; cases h
      | some i' =>
        rw [hx] at h
        cases h
        rw [List.modify_succ_cons, valAt_cons, valAt_cons, ih i' hx (fun e he => hk e (by simp [he]))]
        by_cases hje : isKey j e = true
        · have hj : j ≠ k := by rintro rfl; exact hke hje
          simp [hje, hj]
        · simp [hje]

theorem intKeys_modify (k : Int) (v : Value) : ∀ (es : List MapEntry) (i : Nat), intKeys es → intKeys (es.modify i fun e => { e with key := .int .i64 k, val := v }) := by
  intro es
  induction es with
  | nil => intro i h; simpa using h
  | cons e es ih =>
    intro i h
    cases i with
    | zero =>
      intro x hx
      rw [List.modify_zero_cons] at hx
      rcases List.mem_cons.1 hx with rfl | hx
      · exact ⟨k, rfl⟩
      · exact h x (by simp [hx])
    | succ i =>
      intro x hx
      rw [List.modify_succ_cons] at hx
      rcases List.mem_cons.1 hx with rfl | hx
      · exact h x (by simp)
      · exact ih i (fun e he => h e (by simp [he])) x hx

/-- A store: the same function but at k; only block r has turned. -/
theorem run_mapUpdate_int (ht : P.underlying t = some (.map kt et)) (hk : P.underlying kt = some (.int .i64)) (h : IMap w r f) (k : Int) (v : Value) :
    ∃ w2, (Instr.mapUpdate t (.map (some r)) (.int .i64 k) v).run P w = .ok () w2 ∧ IMap w2 r (fun j => if j = k then some v else f j) ∧ w.grownBy w2 (some r) ∧ w2.heap.size = w.heap.size := by
  obtain ⟨es, clock, h1, h2, h3⟩ := h
  have hlt : r < w.heap.size := (Array.getElem?_eq_some_iff.1 h1).1
  have hgr : ∀ o : Obj, w.grownBy { w with heap := w.heap.setIfInBounds r o } (some r) := fun o =>
    ⟨rfl, rfl, rfl, by simp, fun i _ hi => by simp [Array.getElem?_setIfInBounds]; intro e; exact absurd (by rw [e]) hi⟩
  have hat : ∀ o : Obj, ({ w with heap := w.heap.setIfInBounds r o } : World).heap[r]? = some o := fun o => by simp [hlt]
  cases hx : es.toList.findIdx? (isKey k) with
  | none =>
    refine ⟨{ w with heap := w.heap.setIfInBounds r (.map (es.push { key := .int .i64 k, val := v, born := clock }) (clock + 1)) }, ?_, ⟨_, _, hat _, ?_, ?_⟩, hgr _, by simp⟩
    · simp [Instr.mapUpdate, run_underlying ht, MapKept.run_getObj_map h1, run_checkKey_int _ _ hk, run_findKey_int hk k es.toList h2, hx, MapKept.run_setObj_map _ h1]
    · intro e he
      simp at he
      rcases he with he | rfl
      · exact h2 e (by simpa using he)
      · exact ⟨k, rfl⟩
    · intro j
      have hn : ∀ e ∈ es.toList, isKey k e = false := by simpa using hx
      by_cases hj : j = k
      · subst hj
        have : es.toList.find? (isKey j) = none := by simpa using hn
        simp [valAt, List.find?_append, this, isKey]
      · have hs : isKey j ⟨.int .i64 k, v, clock⟩ = false := by simp [isKey, hj]
        simp only [if_neg hj, ← h3 j, valAt, Array.toList_push, List.find?_append, List.find?_cons, hs, List.find?_nil, Option.or_none]
  | some i =>
    have hi := List.findIdx?_eq_some_iff_getElem.1 hx
    obtain ⟨hil, hik, hib⟩ := hi
    have hkey : es.toList[i].key = .int .i64 k := by
      obtain ⟨j, hj⟩ := h2 _ (List.getElem_mem hil)
      rw [hj]
      unfold isKey at hik
      rw [hj] at hik
      simp at hik
      rw [hik]
    have hil' : i < es.size := by simpa using hil
    have hkey' : es[i].key = .int .i64 k := by simpa using hkey
    refine ⟨{ w with heap := w.heap.setIfInBounds r (.map (es.modify i fun e => { e with key := .int .i64 k, val := v }) clock) }, ?_, ⟨_, _, hat _, ?_, ?_⟩, hgr _, by simp⟩
    · simp [Instr.mapUpdate, run_underlying ht, MapKept.run_getObj_map h1, run_checkKey_int _ _ hk, run_findKey_int hk k es.toList h2, hx, MapKept.run_setObj_map _ h1, Instr.keyThatStays, Instr.sameBits, hil', hkey']
    · rw [Array.toList_modify]
      exact intKeys_modify k v _ _ h2
    · intro j
      rw [Array.toList_modify, valAt_modify k j v _ _ hx h2, h3]

end
end Go.Proofs.YtlclpcobblojnaaGreatDoor
/- What has turned since; rows of other elements. No program is named here. -/
namespace Go.Proofs.YtlclpcobblojnaaGreatDoor
open Go.RowKit

/-- But for the blocks in S nothing that was there has turned. -/
structure Since (S : Nat → Prop) (w w' : World) : Prop where
  os : w'.os = w.os
  tape : w'.tape = w.tape
  output : w'.output = w.output
  size : w.heap.size ≤ w'.heap.size
  block : ∀ k, k < w.heap.size → ¬ S k → w'.heap[k]? = w.heap[k]?

section
variable {S : Nat → Prop} {a w w' : World}
theorem Since.refl (S : Nat → Prop) (w : World) : Since S w w := ⟨rfl, rfl, rfl, Nat.le_refl _, fun _ _ _ => rfl⟩
theorem Since.trans {b c : World} (h : Since S a b) (k : Since S b c) : Since S a c :=
  ⟨k.os.trans h.os, k.tape.trans h.tape, k.output.trans h.output, Nat.le_trans h.size k.size, fun i hi hs => (k.block i (Nat.lt_of_lt_of_le hi h.size) hs).trans (h.block i hi hs)⟩
theorem Since.drew (h : Since S a w) : Since S a w.drew := ⟨h.os, h.tape, h.output, h.size, h.block⟩
theorem Since.drewN (h : Since S a w) (n : Nat) : Since S a (w.drewN n) := ⟨h.os, h.tape, h.output, h.size, h.block⟩
theorem Since.alloc (h : Since S a w) (o : Obj) : Since S a (w.alloc o) :=
  ⟨h.os, h.tape, h.output, Nat.le_trans h.size (by simp), fun i hi hs => (Below.heap_alloc w o i (Nat.lt_of_lt_of_le hi h.size)).trans (h.block i hi hs)⟩
theorem Since.setCell (h : Since S a w) {p : Addr} (hp : S p.block ∨ a.heap.size ≤ p.block) (u : Value) : Since S a (w.setCell p u) :=
  ⟨h.os, h.tape, h.output, by simpa [World.setCell] using h.size, fun i hi hs => (Below.heap_setCell w p u i (by
    rintro rfl
    rcases hp with hp | hp
    · exact hs hp
    · omega)).trans (h.block i hi hs)⟩
theorem Since.grown {row : Option Nat} (h : Since S a w) (hg : w.grownBy w' row) (hr : ∀ k, row = some k → S k ∨ a.heap.size ≤ k) : Since S a w' :=
  ⟨hg.os.trans h.os, hg.tape.trans h.tape, hg.output.trans h.output, Nat.le_trans h.size hg.size, fun i hi hs => (hg.block i (Nat.lt_of_lt_of_le hi h.size) (fun e => by
    rcases hr i e.symm with h1 | h1
    · exact hs h1
    · omega)).trans (h.block i hi hs)⟩
theorem Since.below (h : Since S a w) (hb : Below w.heap.size w w') : Since S a w' :=
  ⟨hb.os.trans h.os, hb.tape.trans h.tape, hb.output.trans h.output, Nat.le_trans h.size hb.size, fun i hi hs => (hb.block i (Nat.lt_of_lt_of_le hi h.size)).trans (h.block i hi hs)⟩
theorem Since.toBelow {B : Nat} (h : Since S a w) (hB : B ≤ a.heap.size) (hS : ∀ k, S k → B ≤ k) : Below B a w :=
  ⟨h.os, h.tape, h.output, h.size, fun i hi => h.block i (by omega) (fun hs => by have := hS i hs; omega)⟩
theorem Since.mono {S' : Nat → Prop} (h : Since S a w) (hS : ∀ k, S k → S' k) : Since S' a w := ⟨h.os, h.tape, h.output, h.size, fun i hi hs => h.block i hi (fun h1 => hs (hS i h1))⟩
theorem Blk.since {g : Nat} {t : TypeId} {cs : Array Value} (h : Blk w g t cs) (hs : Since S w w') (hg : ¬ S g) : Blk w' g t cs := h.keep (hs.block g h.lt hg)
theorem OwnS.since {base : Nat} {e : TypeId} {size : Nat} {v : Value} {n : Nat} {xs : List Value} (h : OwnS w base e size v n xs) (hs : Since S w w') (hS : ∀ g, v.ownBlock = some g → ¬ S g) : OwnS w' base e size v n xs :=
  h.of_block fun g hv => hs.block g (h.lt g hv).2 (hS g hv)
theorem IMap.since {r : Nat} {f : Int → Option Value} (h : IMap w r f) (hs : Since S w w') (hg : ¬ S r) : IMap w' r f := h.keep (hs.block r h.lt hg)
end

/-- Rows of other elements lie in other blocks. -/
theorem OwnS.apart {w : World} {base base' : Nat} {e e' : TypeId} {size size' : Nat} {v v' : Value} {n n' : Nat} {xs xs' : List Value} (h : OwnS w base e size v n xs) (h' : OwnS w base' e' size' v' n' xs') (hne : e ≠ e') :
    ∀ g, v.ownBlock = some g → v'.ownBlock ≠ some g := by
  intro g hv hv'
  rcases h.2 with ⟨rfl, _⟩ | ⟨g1, off1, cap1, cur1, rfl, _, hg1, _⟩
  · cases hv
  · rcases h'.2 with ⟨rfl, _⟩ | ⟨g2, off2, cap2, cur2, rfl, _, hg2, _⟩
    · cases hv'
    · simp [Value.ownBlock] at hv hv'
      subst hv
      subst hv'
      rw [hg1] at hg2
      simp at hg2
      exact hne hg2.2

theorem Since.step {S S' : Nat → Prop} {a b c : World} (h : Since S a b) (k : Since S' b c) (hS : ∀ g, S' g → S g ∨ a.heap.size ≤ g) : Since S a c :=
  ⟨k.os.trans h.os, k.tape.trans h.tape, k.output.trans h.output, Nat.le_trans h.size k.size, fun i hi hs => (k.block i (Nat.lt_of_lt_of_le hi h.size) (fun h1 => by
    rcases hS i h1 with h2 | h2
    · exact hs h2
    · omega)).trans (h.block i hi hs)⟩

theorem Blk.set3 {w : World} {g : Nat} {t : TypeId} {a b c : Value} (h : Blk w g t #[a, b, c]) (x y z : Value) : Blk (((w.setCell ⟨g, 0, none⟩ x).setCell ⟨g, 1, none⟩ y).setCell ⟨g, 2, none⟩ z) g t #[x, y, z] := by
  have := ((h.set_ 0 x).set_ 1 y).set_ 2 z
  simpa using this

theorem news_one (w : World) (g : Nat) (u : Value) (h : w.cell? ⟨g, 0, none⟩ = some u) : ∀ j v, [u][j]? = some v → w.cell? ((⟨g, 0, none⟩ : Addr).add j) = some v := by
  intro j v hj
  cases j with
  | zero => simp at hj; subst hj; exact h
  | succ j => simp at hj

theorem below_alloc (w : World) (o : Obj) : Below w.heap.size w (w.alloc o) := (Below.refl _ _).alloc (Nat.le_refl _) _

theorem RowAt.later {α : Type} {size : Nat} {cells : α → List Value} {w w' : World} {A : Option Addr} {l : List α} (h : RowAt size cells w w.heap.size A l) (hb : Below w.heap.size w w') : RowAt size cells w' w'.heap.size A l := (h.below hb (Nat.le_refl _)).mono hb.size

theorem OwnS.ne_blk {w : World} {base : Nat} {e : TypeId} {size : Nat} {v : Value} {n : Nat} {xs : List Value} (h : OwnS w base e size v n xs) {g : Nat} {t : TypeId} {cs : Array Value} (hb : Blk w g t cs) (hne : e ≠ t) : v.ownBlock ≠ some g := by
  intro hv
  rcases h.2 with ⟨rfl, _⟩ | ⟨g1, off1, cap1, cur1, rfl, _, hg1, _⟩
  · cases hv
  · have e1 : g1 = g := by simpa [Value.ownBlock] using hv
    subst e1
    unfold Blk at hb
    rw [hb] at hg1
    simp at hg1
    exact hne hg1.2.symm

section
variable {P : Program} (w : World)

/-- append of a slice that may be nil. -/
theorem run_append_Q (base : Nat) (t ty e : TypeId) (i : TypeInfo) (z : Value) (size bytes : Nat) (ht : P.underlying t = some (.slice e)) (hi : P.info? e = some i) (hz : i.zero = some z)
    (hsize : i.size = size) (hby : i.bytes = bytes) (hzs : z.cells.size = size) (hs0 : 0 < size)
    (v : Value) (n : Nat) (xs : List Value) (hown : OwnS w base e size v n xs)
    (A : Option Addr) (m c : Nat) (news : List Value) (hl : news.length = m * size) (hnews : ∀ j u, news[j]? = some u → ∃ a, A = some a ∧ w.cell? (a.add j) = some u) (h1 : ∀ u ∈ news, u.oneCell' = true)
    (h63 : n + m ≤ maxLen) (hbytes : (n + m) * bytes ≤ 140737488355328) (hbase : base ≤ w.heap.size) :
    ∃ v' w', (Builtin.append_ #[t, t] ty #[v, .slice A m c]).run P w = .ok v' w' ∧ OwnS w' base e size v' (n + m) (xs ++ news) ∧ w.grownBy w' v.ownBlock ∧
      (v'.ownBlock = v.ownBlock ∨ v'.ownBlock = some w.heap.size) := by
  cases A with
  | some a =>
    refine run_append_S w base t ty e i z size bytes ht hi hz hsize hby hzs v n xs hown a m c news hl (fun j u hu => ?_) h1 h63 hbytes hbase
    obtain ⟨a', ha, hc⟩ := hnews j u hu
    cases ha
    exact hc
  | none =>
    have hn : news = [] := by
      cases news with
      | nil => rfl
      | cons u us =>
        obtain ⟨a, ha, _⟩ := hnews 0 u rfl
        cases ha
    subst hn
    have hm : m = 0 := by
      rcases Nat.eq_zero_or_pos m with h | h
      · exact h
      · have := Nat.mul_pos h hs0
        simp at hl
        omega
    subst hm
    rcases hown.2 with ⟨rfl, rfl⟩ | ⟨g, off, cap, cur, rfl, hbg, hg, hnc, hcm, hcs, htake⟩
    · refine ⟨.slice none 0 0, w, ?_, by simpa using hown, ⟨rfl, rfl, rfl, Nat.le_refl _, fun _ _ _ => rfl⟩, .inl rfl⟩
      simp [Builtin.append_, run_underlying ht, sizeOf, typeInfo, hi, Builtin.lenOf, Builtin.firstCells]
    · refine ⟨.slice (some ⟨g, off, none⟩) n cap, w, ?_, by simpa using hown, ⟨rfl, rfl, rfl, Nat.le_refl _, fun _ _ _ => rfl⟩, .inl rfl⟩
      simp [Builtin.append_, run_underlying ht, sizeOf, typeInfo, hi, Builtin.lenOf, Builtin.firstCells, hnc, storeCells]

theorem step_append_Q {ops : Array Oper} {o : Oper} {a : Act} {K : Act → World → Prop} {Q : Exit → Act → World → Prop} {E : Prop} (hgd : o.guard = none) (s x : Operand) (t : TypeId)
    (ho : o.op = .call { callee := .builtin .append, args := #[s, x], argTypes := #[t, t] })
    (base : Nat) (e : TypeId) (i : TypeInfo) (z : Value) (size bytes : Nat) (ht : P.underlying t = some (.slice e)) (hi : P.info? e = some i) (hz : i.zero = some z)
    (hsize : i.size = size) (hby : i.bytes = bytes) (hzs : z.cells.size = size) (hs0 : 0 < size)
    (v : Value) (n : Nat) (xs : List Value) (hs : a.eval s = v) (hown : OwnS w base e size v n xs)
    (A : Option Addr) (m c : Nat) (news : List Value) (hx : a.eval x = .slice A m c) (hl : news.length = m * size) (hnews : ∀ j u, news[j]? = some u → ∃ a, A = some a ∧ w.cell? (a.add j) = some u) (h1 : ∀ u ∈ news, u.oneCell' = true)
    (h63 : n + m ≤ maxLen) (hbytes : (n + m) * bytes ≤ 140737488355328) (hbase : base ≤ w.heap.size)
    (h : ∀ v' w', OwnS w' base e size v' (n + m) (xs ++ news) → w.grownBy w' v.ownBlock → (v'.ownBlock = v.ownBlock ∨ v'.ownBlock = some w.heap.size) → K (a.put o.dst v') w') :
    if Region.wanted o (yielded ops a.tmps) = true then Oper.wp P o a w K Q else E := by
  have hw : Region.wanted o (yielded ops a.tmps) = true := by simp [Region.wanted, hgd]
  rw [if_pos hw]
  obtain ⟨v', w', hr, h2, h3, h4⟩ := run_append_Q (P := P) w base t o.type e i z size bytes ht hi hz hsize hby hzs hs0 v n xs hown A m c news hl hnews h1 h63 hbytes hbase
  unfold Oper.wp execOp
  simp only [ho, resolve, invoke, builtin, Sem.run_bind, Sem.run_pure, Result.andThen_ok, List.map_toArray, List.map_cons, List.map_nil, hs, hx, hr]
  exact h v' w' h2 h3 h4
end

section
variable {P : Program} (w : World)
theorem wpList_append_Q {ops : Array Oper} {rest : List Oper} {o : Oper} {a : Act} {Q : Exit → Act → World → Prop} (hgd : o.guard = none) (s x : Operand) (t : TypeId)
    (ho : o.op = .call { callee := .builtin .append, args := #[s, x], argTypes := #[t, t] })
    (base : Nat) (e : TypeId) (i : TypeInfo) (z : Value) (size bytes : Nat) (ht : P.underlying t = some (.slice e)) (hi : P.info? e = some i) (hz : i.zero = some z)
    (hsize : i.size = size) (hby : i.bytes = bytes) (hzs : z.cells.size = size) (hs0 : 0 < size)
    (v : Value) (n : Nat) (xs : List Value) (hs : a.eval s = v) (hown : OwnS w base e size v n xs)
    (A : Option Addr) (m c : Nat) (news : List Value) (hx : a.eval x = .slice A m c) (hl : news.length = m * size) (hnews : ∀ j u, news[j]? = some u → ∃ a, A = some a ∧ w.cell? (a.add j) = some u) (h1 : ∀ u ∈ news, u.oneCell' = true)
    (h63 : n + m ≤ maxLen) (hbytes : (n + m) * bytes ≤ 140737488355328) (hbase : base ≤ w.heap.size)
    (h : ∀ v' w', OwnS w' base e size v' (n + m) (xs ++ news) → w.grownBy w' v.ownBlock → (v'.ownBlock = v.ownBlock ∨ v'.ownBlock = some w.heap.size) → wpList P ops Q rest (a.put o.dst v') w') : wpList P ops Q (o :: rest) a w :=
  wpList_plain hgd fun _ hK => by
    obtain ⟨v', w', hr, h2, h3, h4⟩ := run_append_Q (P := P) w base t o.type e i z size bytes ht hi hz hsize hby hzs hs0 v n xs hown A m c news hl hnews h1 h63 hbytes hbase
    unfold Oper.wp execOp
    simp only [ho, resolve, invoke, builtin, Sem.run_bind, Sem.run_pure, Result.andThen_ok, List.map_toArray, List.map_cons, List.map_nil, hs, hx, hr]
    exact hK _ _ (h v' w' h2 h3 h4)
end

end Go.Proofs.YtlclpcobblojnaaGreatDoor
/- A region that draws its order, walked in the order of the text: the soft operations (they only yield a value, in every world that meets S) and the hard ones (each comes up alone); the operations of 'ex' wait for all soft ones, so S need not hold behind them. Turned from the library's OrdersHeld. No program is named here. -/
namespace Go.Proofs.YtlclpcobblojnaaGreatDoor

section
variable {P : Program} {ops : Array Oper} {Q : Exit → Act → World → Prop} {md : Region.Mode} {S : World → Prop} {ex : List Nat}

/-- Whatever order is picked from here on, and S holds behind every operation that is carried out, but those of 'ex'. -/
def wpAnyT (P : Program) (md : Region.Mode) (ops : Array Oper) (Q : Exit → Act → World → Prop) (S : World → Prop) (ex : List Nat) : Nat → Array Bool → Act → World → Prop
  | 0, listed, a, w => Region.ready md ops listed = [] ∧ Q .normal a w
  | fuel + 1, listed, a, w =>
    (Region.ready md ops listed = [] → Q .normal a w) ∧
    ∀ i ∈ Region.ready md ops listed, wpOp P ops Q i (fun a' w' => (i ∉ ex → S w') ∧ wpAnyT P md ops Q S ex fuel (listed.setIfInBounds i true) a' w') a w

theorem wpAny_of_T : ∀ (fuel : Nat) (listed : Array Bool) (a : Act) (w : World), wpAnyT P md ops Q S ex fuel listed a w → wpAny P md ops Q fuel listed a w
  | 0, _, _, _, h => h
  | fuel + 1, _, _, _, h => ⟨h.1, fun i hi => wpOp_mono (fun a' w' h' => wpAny_of_T fuel _ a' w' h'.2) (h.2 i hi)⟩

theorem wpAnyT_first {i : Nat} {oi : Oper} {v : Value} (hi : ops[i]? = some oi) (hsel : ∀ (j : Nat) (o : Oper) cs b, ops[j]? = some o → o.op ≠ .select cs b)
    (hex : ∀ j ∈ ex, Region.waitsFor md ops j i = true)
    (hQ : ∀ c a w, Q (.panic c) (a.put oi.dst v) w → Q (.panic c) a w) :
    ∀ (fuel : Nat) (listed : Array Bool) (a : Act) (w : World),
      (∀ j oj, ops[j]? = some oj → j ≠ i → listed.getD j true = false → (∀ e ∈ oj.after, Region.binds md e = true → e.on ≠ i) → oi.apart ops oj = true) →
      i ∈ Region.ready md ops listed → YieldsIf P ops S oi v a → S w →
      wpAnyT P md ops Q S ex fuel (listed.setIfInBounds i true) (a.put oi.dst v) w → wpAnyT P md ops Q S ex (fuel + 1) listed a w := by
  intro fuel
  induction fuel with
  | zero =>
    intro listed a w _ hr hy hS H
    refine ⟨fun h => (by rw [h] at hr; cases hr), fun j hj => ?_⟩
    by_cases hji : j = i
    · subst hji; exact hy.wpOp hi hS ⟨fun _ => hS, H⟩
    · have := ready_mono hj hji
      rw [H.1] at this
      cases this
  | succ fuel ih =>
    intro listed a w hfree hr hy hS H
    refine ⟨fun h => (by rw [h] at hr; cases hr), fun j hj => ?_⟩
    by_cases hji : j = i
    · subst hji; exact hy.wpOp hi hS ⟨fun _ => hS, H⟩
    · have h1 := H.2 j (ready_mono hj hji)
      obtain ⟨hjun, oj, hoj, hall⟩ := mem_ready.1 hj
      have hnot : ∀ e ∈ oj.after, Region.binds md e = true → e.on ≠ i := fun e he hb heq => by
        have h1 := hall e he hb
        have h0 := (mem_ready.1 hr).1
        rw [heq] at h1
        rcases Nat.lt_or_ge i listed.size with h' | h'
        · simp [h'] at h0 h1; rw [h0] at h1; cases h1
        · simp [Array.getElem?_eq_none h'] at h1
      have hjex : j ∉ ex := fun hm => by
        obtain ⟨oj', hj', e, he, hb, hon⟩ := Region.waitsFor_spec (hex j hm)
        rw [hoj] at hj'
        cases hj'
        exact hnot e he hb hon
      have h2 := wpOp_putIf hoj (hfree j oj hoj hji hjun hnot) (fun cs b => hsel i oi cs b hi) (fun cs b => hsel j oj cs b hoj) hQ hy h1
      have hfree' : ∀ k ok, ops[k]? = some ok → k ≠ i → (listed.setIfInBounds j true).getD k true = false →
          (∀ e ∈ ok.after, Region.binds md e = true → e.on ≠ i) → oi.apart ops ok = true := fun k ok hk hki hun hno => by
        refine hfree k ok hk hki ?_ hno
        by_cases hjk : j = k
        · subst hjk; exact hjun
        · rw [getD_set_ne true hjk] at hun; exact hun
      refine wpOp_mono (fun a' w' h3 => ⟨h3.2.1, ih (listed.setIfInBounds j true) a' w' hfree' (ready_mono hr (Ne.symm hji)) h3.1 (h3.2.1 hjex) ?_⟩) h2
      rw [Array.setIfInBounds_comm _ _ hji]
      exact h3.2.2

/-- The walk in the order of the text. -/
def wpHS (P : Program) (ops : Array Oper) (Q : Exit → Act → World → Prop) (S : World → Prop) (ex : List Nat) : Nat → List Bool → List Oper → Act → World → Prop
  | _, _, [], a, w => Q .normal a w
  | _, [], _ :: _, _, _ => False
  | k, true :: ss, o :: rest, a, w => ∃ v, YieldsIf P ops S o v a ∧ S w ∧ wpHS P ops Q S ex (k + 1) ss rest (a.put o.dst v) w
  | k, false :: ss, o :: rest, a, w => o.guard = none ∧ o.wp P a w (fun a' w' => (ex.contains k = false → S w') ∧ wpHS P ops Q S ex (k + 1) ss rest a' w') Q

/-- May the operations come up so? -/
def heldFrom (md : Region.Mode) (ops : Array Oper) (ex : List Nat) : Nat → List Bool → Array Bool → Bool
  | _, [], listed => (Region.ready md ops listed).isEmpty
  | k, true :: ss, listed => Region.free md ops listed k && (Region.ready md ops listed).contains k && ex.all (fun j => Region.waitsFor md ops j k) && heldFrom md ops ex (k + 1) ss (listed.setIfInBounds k true)
  | k, false :: ss, listed => (Region.ready md ops listed == [k]) && heldFrom md ops ex (k + 1) ss (listed.setIfInBounds k true)

theorem wpAnyT_of_HS (hs : Region.noSelect ops = true) (hQ : ∀ c a b w, Q (.panic c) a w → Q (.panic c) b w) : ∀ (l : List Oper) (ss : List Bool) (k : Nat) (listed : Array Bool) (a : Act) (w : World), (∀ j, l[j]? = ops[k + j]?) → ss.length = l.length →
    heldFrom md ops ex k ss listed = true → wpHS P ops Q S ex k ss l a w → wpAnyT P md ops Q S ex l.length listed a w := by
  intro l
  induction l with
  | nil =>
    intro ss k listed a w hl hss hB h
    have : ss = [] := List.eq_nil_of_length_eq_zero hss
    subst this
    exact ⟨by simpa [heldFrom] using hB, by simpa [wpHS] using h⟩
  | cons o rest ih =>
    intro ss k listed a w hl hss hB h
    have hok : ops[k]? = some o := by have := hl 0; simpa using this.symm
    have hl' : ∀ j, rest[j]? = ops[k + 1 + j]? := fun j => by
      have := hl (j + 1)
      rw [List.getElem?_cons_succ] at this
      rw [this, Nat.add_assoc, Nat.add_comm 1 j]
    cases ss with
    | nil => simp at hss
    | cons s ss =>
      have hss' : ss.length = rest.length := by simpa using hss
      cases s with
      | true =>
        simp only [heldFrom, Bool.and_eq_true] at hB
        obtain ⟨⟨⟨h1, h2⟩, h3⟩, h4⟩ := hB
        obtain ⟨v, hy, hS, h5⟩ := h
        refine wpAnyT_first hok (Region.noSelect_spec hs) (fun j hj => ?_) (fun c a w hq => hQ c _ _ w hq) rest.length listed a w (Region.free_spec hok h1) (by simpa using h2) hy hS (ih ss (k + 1) _ _ w hl' hss' h4 h5)
        exact List.all_eq_true.1 h3 j hj
      | false =>
        simp only [heldFrom, Bool.and_eq_true, beq_iff_eq] at hB
        obtain ⟨h1, h2⟩ := hB
        obtain ⟨hg, h5⟩ := h
        refine ⟨fun h0 => (by rw [h0] at h1; cases h1), fun i hi => ?_⟩
        rw [h1] at hi
        simp at hi
        subst hi
        have hw : Region.wanted o (yielded ops a.tmps) = true := by simp [Region.wanted, hg]
        unfold wpOp
        simp only [hok, hw, if_true]
        refine .inl (Oper.wp_mono (fun a' w' h6 => ⟨fun hn => h6.1 (by simpa using hn), ih ss (i + 1) _ a' w' hl' hss' h2 h6.2⟩) h5)

/-- The beginning. -/
theorem wp_region_HS {id : Nat} {a : Act} {w : World} {l : List Oper} (S : World → Prop) (ex : List Nat) (ss : List Bool) (hm : P.follows .mixedOrders = true) (hs : Region.noSelect l.toArray = true)
    (hl : ss.length = l.length) (hB : heldFrom .any l.toArray ex 0 ss (Array.replicate l.length false) = true) (h : wpHS P l.toArray (NoPanic Q) S ex 0 ss l a w.drew) : (Code.region id l.toArray true).wp P Q a w := by
  refine wp_region_noPanic (wp_region_any hm (wpAny_of_T (S := S) (ex := ex) _ _ _ _ ?_))
  have := wpAnyT_of_HS (P := P) (S := S) (md := .any) hs (Q := NoPanic Q) (fun c a b w hq => (hq : False).elim) l ss 0 (Array.replicate l.length false) a w.drew (fun j => by simp) hl hB h
  simpa using this

theorem wpHS_nil {k : Nat} {ss : List Bool} {a : Act} {w : World} (h : Q .normal a w) : wpHS P ops (NoPanic Q) S ex k ss [] a w := by
  cases ss <;> exact h

theorem wpHS_soft {k : Nat} {ss : List Bool} {o : Oper} {rest : List Oper} {a : Act} {w : World} {v : Value} (hg : o.guard = none) (hS : S w) (hy : ∀ w', S w' → (execOp a.eval o).run P w' = .ok (.value v) w')
    (h : wpHS P ops Q S ex (k + 1) ss rest (a.put o.dst v) w) : wpHS P ops Q S ex k (true :: ss) (o :: rest) a w :=
  ⟨v, .inl ⟨by simp [Region.wanted, hg], hy⟩, hS, h⟩

/-- A hard operation that is run. -/
theorem wpHS_run {k : Nat} {ss : List Bool} {o : Oper} {rest : List Oper} {a : Act} {w w' : World} {v : Value} (hg : o.guard = none) (hr : (execOp a.eval o).run P w = .ok (.value v) w') (hS : ex.contains k = false → S w')
    (h : wpHS P ops Q S ex (k + 1) ss rest (a.put o.dst v) w') : wpHS P ops Q S ex k (false :: ss) (o :: rest) a w :=
  ⟨hg, by unfold Oper.wp; rw [hr]; exact ⟨hS, h⟩⟩

theorem wpHS_skip {k : Nat} {ss : List Bool} {o : Oper} {rest : List Oper} {a : Act} {w w' : World} (hg : o.guard = none) (hr : (execOp a.eval o).run P w = .ok .skip w') (hS : ex.contains k = false → S w')
    (h : wpHS P ops Q S ex (k + 1) ss rest (a.put o.dst undef) w') : wpHS P ops Q S ex k (false :: ss) (o :: rest) a w :=
  ⟨hg, by unfold Oper.wp; rw [hr]; exact ⟨hS, h⟩⟩

/-- A hard operation by its law. -/
theorem wpHS_law {k : Nat} {ss : List Bool} {o : Oper} {rest : List Oper} {a : Act} {w : World} (hg : o.guard = none)
    (h : o.wp P a w (fun a' w' => (ex.contains k = false → S w') ∧ wpHS P ops Q S ex (k + 1) ss rest a' w') Q) : wpHS P ops Q S ex k (false :: ss) (o :: rest) a w := ⟨hg, h⟩

end
end Go.Proofs.YtlclpcobblojnaaGreatDoor
/- The walk of a region that draws its order (XHeld), where operations are guarded. No program is named here. -/
namespace Go.Proofs.YtlclpcobblojnaaGreatDoor

section
variable {P : Program} {ops : Array Oper} {Q : Exit → Act → World → Prop} {md : Region.Mode} {S : World → Prop} {ex : List Nat}

/-- The walk in the order of the text. -/
def wpHG (P : Program) (ops : Array Oper) (Q : Exit → Act → World → Prop) (S : World → Prop) (ex : List Nat) : Nat → List Bool → List Oper → Act → World → Prop
  | _, _, [], a, w => Q .normal a w
  | _, [], _ :: _, _, _ => False
  | k, true :: ss, o :: rest, a, w => ∃ v, YieldsIf P ops S o v a ∧ S w ∧ wpHG P ops Q S ex (k + 1) ss rest (a.put o.dst v) w
  | k, false :: ss, o :: rest, a, w => Region.wanted o (yielded ops a.tmps) = true ∧ o.wp P a w (fun a' w' => (ex.contains k = false → S w') ∧ wpHG P ops Q S ex (k + 1) ss rest a' w') Q

theorem wpAnyT_of_HG (hs : Region.noSelect ops = true) (hQ : ∀ c a b w, Q (.panic c) a w → Q (.panic c) b w) : ∀ (l : List Oper) (ss : List Bool) (k : Nat) (listed : Array Bool) (a : Act) (w : World), (∀ j, l[j]? = ops[k + j]?) → ss.length = l.length →
    heldFrom md ops ex k ss listed = true → wpHG P ops Q S ex k ss l a w → wpAnyT P md ops Q S ex l.length listed a w := by
  intro l
  induction l with
  | nil =>
    intro ss k listed a w hl hss hB h
    have : ss = [] := List.eq_nil_of_length_eq_zero hss
    subst this
    exact ⟨by simpa [heldFrom] using hB, by simpa [wpHG] using h⟩
  | cons o rest ih =>
    intro ss k listed a w hl hss hB h
    have hok : ops[k]? = some o := by have := hl 0; simpa using this.symm
    have hl' : ∀ j, rest[j]? = ops[k + 1 + j]? := fun j => by
      have := hl (j + 1)
      rw [List.getElem?_cons_succ] at this
      rw [this, Nat.add_assoc, Nat.add_comm 1 j]
    cases ss with
    | nil => simp at hss
    | cons s ss =>
      have hss' : ss.length = rest.length := by simpa using hss
      cases s with
      | true =>
        simp only [heldFrom, Bool.and_eq_true] at hB
        obtain ⟨⟨⟨h1, h2⟩, h3⟩, h4⟩ := hB
        obtain ⟨v, hy, hS, h5⟩ := h
        refine wpAnyT_first hok (Region.noSelect_spec hs) (fun j hj => ?_) (fun c a w hq => hQ c _ _ w hq) rest.length listed a w (Region.free_spec hok h1) (by simpa using h2) hy hS (ih ss (k + 1) _ _ w hl' hss' h4 h5)
        exact List.all_eq_true.1 h3 j hj
      | false =>
        simp only [heldFrom, Bool.and_eq_true, beq_iff_eq] at hB
        obtain ⟨h1, h2⟩ := hB
        obtain ⟨hg, h5⟩ := h
        refine ⟨fun h0 => (by rw [h0] at h1; cases h1), fun i hi => ?_⟩
        rw [h1] at hi
        simp at hi
        subst hi
        unfold wpOp
        simp only [hok, hg, if_true]
        refine .inl (Oper.wp_mono (fun a' w' h6 => ⟨fun hn => h6.1 (by simpa using hn), ih ss (i + 1) _ a' w' hl' hss' h2 h6.2⟩) h5)

/-- The beginning. -/
theorem wp_region_HG {id : Nat} {a : Act} {w : World} {l : List Oper} (S : World → Prop) (ex : List Nat) (ss : List Bool) (hm : P.follows .mixedOrders = true) (hs : Region.noSelect l.toArray = true)
    (hl : ss.length = l.length) (hB : heldFrom .any l.toArray ex 0 ss (Array.replicate l.length false) = true) (h : wpHG P l.toArray (NoPanic Q) S ex 0 ss l a w.drew) : (Code.region id l.toArray true).wp P Q a w := by
  refine wp_region_noPanic (wp_region_any hm (wpAny_of_T (S := S) (ex := ex) _ _ _ _ ?_))
  have := wpAnyT_of_HG (P := P) (S := S) (md := .any) hs (Q := NoPanic Q) (fun c a b w hq => (hq : False).elim) l ss 0 (Array.replicate l.length false) a w.drew (fun j => by simp) hl hB h
  simpa using this

theorem wpHG_nil {k : Nat} {ss : List Bool} {a : Act} {w : World} (h : Q .normal a w) : wpHG P ops (NoPanic Q) S ex k ss [] a w := by
  cases ss <;> exact h

theorem wpHG_soft {k : Nat} {ss : List Bool} {o : Oper} {rest : List Oper} {a : Act} {w : World} {v : Value} (hg : Region.wanted o (yielded ops a.tmps) = true) (hS : S w) (hy : ∀ w', S w' → (execOp a.eval o).run P w' = .ok (.value v) w')
    (h : wpHG P ops Q S ex (k + 1) ss rest (a.put o.dst v) w) : wpHG P ops Q S ex k (true :: ss) (o :: rest) a w :=
  ⟨v, .inl ⟨hg, hy⟩, hS, h⟩

/-- An operation whose guard says no. -/
theorem wpHG_off {k : Nat} {ss : List Bool} {o : Oper} {rest : List Oper} {a : Act} {w : World} (hg : Region.wanted o (yielded ops a.tmps) = false) (hS : S w)
    (h : wpHG P ops Q S ex (k + 1) ss rest (a.put o.dst undef) w) : wpHG P ops Q S ex k (true :: ss) (o :: rest) a w :=
  ⟨undef, .inr ⟨hg, rfl⟩, hS, h⟩

/-- A hard operation by its law. -/
theorem wpHG_law {k : Nat} {ss : List Bool} {o : Oper} {rest : List Oper} {a : Act} {w : World} (hg : Region.wanted o (yielded ops a.tmps) = true)
    (h : o.wp P a w (fun a' w' => (ex.contains k = false → S w') ∧ wpHG P ops Q S ex (k + 1) ss rest a' w') Q) : wpHG P ops Q S ex k (false :: ss) (o :: rest) a w := ⟨hg, h⟩

end
end Go.Proofs.YtlclpcobblojnaaGreatDoor
/- Flows: as plain data, and in memory. -/
namespace Go.Proofs.YtlclpcobblojnaaGreatDoor
open Go.RowKit

/-- A point. -/
structure Pt where
  kind : Int
  node : Int
  next : List Int
deriving DecidableEq

def intCells (z : Int) : List Value := [.int .i64 z]

/-- A point in memory: three cells; where its successors stand. -/
def PtAt (w : World) (B b o : Nat) (p : Pt) : Prop :=
  w.cell? ⟨b, o, none⟩ = some (.int .i64 p.kind) ∧ w.cell? ⟨b, o + 1, none⟩ = some (.int .i64 p.node) ∧
    ∃ A c, w.cell? ⟨b, o + 2, none⟩ = some (.slice A p.next.length c) ∧ p.next.length ≤ c ∧ c ≤ maxLen ∧ RowAt 1 intCells w B A p.next
/-- The points of a flow in memory. -/
def FlowAt (w : World) (B : Nat) (A : Option Addr) (ps : List Pt) : Prop := ∀ k p, ps[k]? = some p → ∃ b off, A = some ⟨b, off, none⟩ ∧ b < B ∧ PtAt w B b (off + k * 3) p

theorem PtAt.below {w w' : World} {B B' b o : Nat} {p : Pt} (h : PtAt w B b o p) (hb : Below B' w w') (hB : B ≤ B') (hlt : b < B) : PtAt w' B b o p := by
  obtain ⟨h1, h2, A, c, h3, h4, h5, h6⟩ := h
  have hc : ∀ o', w'.cell? ⟨b, o', none⟩ = w.cell? ⟨b, o', none⟩ := fun o' => hb.cell (p := ⟨b, o', none⟩) (by show b < B'; omega)
  exact ⟨(hc _).trans h1, (hc _).trans h2, A, c, (hc _).trans h3, h4, h5, h6.below hb hB⟩
theorem FlowAt.below {w w' : World} {B B' : Nat} {A : Option Addr} {ps : List Pt} (h : FlowAt w B A ps) (hb : Below B' w w') (hB : B ≤ B') : FlowAt w' B A ps := fun k p hk =>
  let ⟨b, off, h1, h2, h3⟩ := h k p hk
  ⟨b, off, h1, h2, h3.below hb hB h2⟩
theorem FlowAt.mono {w : World} {B B' : Nat} {A : Option Addr} {ps : List Pt} (h : FlowAt w B A ps) (hB : B ≤ B') : FlowAt w B' A ps := fun k p hk =>
  let ⟨b, off, h1, h2, h3, h4, A', c, h5, h6, h7, h8⟩ := h k p hk
  ⟨b, off, h1, by omega, h3, h4, A', c, h5, h6, h7, h8.mono hB⟩


/-- What the laws' guard asks. -/
def smallB (ps : List Pt) (m : Nat) : Bool := ps.all (fun p => decide (p.next.length ≤ 8)) && decide (ps.length ≤ m)
/-- A valid flow. -/
def nextOk (n : Nat) (p : Pt) : Bool := p.next.all fun k => decide (1 ≤ k) && decide (k < (n : Int))
def validB (ps : List Pt) : Bool := decide (2 ≤ ps.length) && (decide (ps.length ≤ 1024) && ((match ps[1]? with | some p => decide (p.next.length = 0) | none => true) && ps.all (nextOk ps.length)))

theorem all_take_succ {α : Type} {f : α → Bool} {l : List α} {k : Nat} {x : α} (h : l[k]? = some x) : (l.take (k + 1)).all f = ((l.take k).all f && f x) := by
  rw [List.take_add_one, List.all_append, h]
  simp
theorem all_take_all {α : Type} {f : α → Bool} {l : List α} {k : Nat} (h : l.length ≤ k) : (l.take k).all f = l.all f := by
  rw [List.take_of_length_le h]
theorem all_false_of {α : Type} {f : α → Bool} {l : List α} {k : Nat} {x : α} (h : l[k]? = some x) (hx : f x = false) : l.all f = false := by
  rw [List.all_eq_false]
  exact ⟨x, List.mem_of_getElem? h, by rw [hx]; simp⟩
end Go.Proofs.YtlclpcobblojnaaGreatDoor
/- The reference's Small, walked. -/
namespace Go.Proofs.YtlclpcobblojnaaGreatDoor
open Go.RowKit

set_option maxHeartbeats 1000000 in
theorem Small_any (ps : List Pt) (A : Option Addr) (n c m : Nat) (w : World) (hf : FlowAt w w.heap.size A ps) (hl : ps.length = n) (hn : n ≤ maxLen) (hm : m ≤ 100) :
    Calls Tryz.prog 6 #[.agg #[.slice A n c], .int .i64 (m : Int)] w fun e w' => e = .returned (.bool (smallB ps m)) ∧ Below w.heap.size w w' := by
  obtain ⟨W, hW⟩ : ∃ W, w.alloc (.cells #[.slice A n c] 24) = W := ⟨_, rfl⟩
  have hb : Below w.heap.size w W := by rw [← hW]; exact below_alloc _ _
  have hx : Blk W w.heap.size 24 #[.slice A n c] := by rw [← hW]; exact Blk.new w _ _
  have hfW := hf.below hb (Nat.le_refl _)
  have HB := Lib.hid hb
  have HF := Lib.hid hfW
  have HX := Lib.hid hx
  have HL := Lib.hid hl
  have hlt := hx.lt
  unfold maxLen at hn
  clear hf hb hx hfW hl
  go_enter Tryz.func6, Tryz.ntmps6
  go_wp2_with (rw [hW])
  clear hW
  go_loopg [5] n (fun gk s wr => ∃ k : Nat, k + gk = n ∧ s = .int .i64 k ∧ Below W.heap.size W wr ∧ (ps.take k).all (fun p => decide (p.next.length ≤ 8)) = true)
  case atStart => exact ⟨0, by omega, rfl, Below.refl _ _, rfl⟩
  case round =>
    obtain ⟨k, hk, rfl, hB, ht⟩ := hrel
    have hk' : k ≤ n := by omega
    have HK := Lib.hid hk
    have HT := Lib.hid ht
    have hxr := HX.out.below hB hlt
    have x0 := hxr.cell 0
    have lx := hxr.lt
    have HB2 := Lib.hid (HB.out.trans (hB.mono HB.out.size))
    have HBr := Lib.hid hB
    clear hk ht hxr
    by_cases hltk : k < n
    · have e1 : ps[k]? = some (ps[k]'(by rw [HL.out]; exact hltk)) := List.getElem?_eq_getElem _
      generalize ps[k]'(by rw [HL.out]; exact hltk) = p at e1
      obtain ⟨b1, o1, hA1, hb1, h1, h2, A2, c2, h3, h4, h5, h6⟩ := (HF.out.below hB HB.out.size) k _ e1
      subst hA1
      have E1 := Lib.hid e1
      have hkn : (k : Int) < (n : Int) := by omega
      obtain ⟨q, hq⟩ : ∃ q, p.next.length = q := ⟨_, rfl⟩
      rw [hq] at h3 h4
      have hq2 : q ≤ 9223372036854775807 := by unfold maxLen at h5; omega
      have HQ := Lib.hid hq
      clear e1 hq h1 h2 h6 h5 hB
      by_cases hq8 : q ≤ 8
      · have hs : (ps.take (k + 1)).all (fun p => decide (p.next.length ≤ 8)) = true := by
          rw [all_take_succ E1.out, HT.out, HQ.out]
          simpa using hq8
        have HS := Lib.hid hs
        clear hs
        go_wp2_with fail
        go_roundg (gk - 1)
        case measure => have := HK.out; omega
        case rel => exact ⟨k + 1, by have := HK.out; omega, by go_num, HBr.out, HS.out⟩
      · have hres : smallB ps m = false := by
          unfold smallB
          rw [all_false_of E1.out (by rw [HQ.out]; simpa using hq8)]
          rfl
        have HRES := Lib.hid hres
        clear hres
        go_wp2_with fail
        go_ret
        rw [HRES.out]
        exact ⟨rfl, HB2.out⟩
    · have hres : smallB ps m = decide (n ≤ m) := by
        unfold smallB
        rw [← all_take_all (k := k) (by rw [HL.out]; omega), HT.out, HL.out]
        rfl
      have hd : decide ((n : Int) ≤ (m : Int)) = decide (n ≤ m) := by simp
      have HRES := Lib.hid hres
      have HD := Lib.hid hd
      clear hres hd
      go_wp2_with fail
      go_ret
      rw [HRES.out]
      exact ⟨ret_bool (by first | exact HD.out | simp), HB2.out⟩

end Go.Proofs.YtlclpcobblojnaaGreatDoor
/- The reference's Valid, walked. -/
namespace Go.Proofs.YtlclpcobblojnaaGreatDoor
open Go.RowKit

theorem validB_short {ps : List Pt} (h : ps.length < 2) : validB ps = false := by
  unfold validB
  rw [decide_eq_false (by omega)]
  rfl
theorem validB_exit {ps : List Pt} {p : Pt} (h : ps[1]? = some p) (hp : p.next.length ≠ 0) : validB ps = false := by
  unfold validB
  rw [h]
  simp [hp]
theorem validB_bad {ps : List Pt} {k : Nat} {p : Pt} (h : ps[k]? = some p) (hp : nextOk ps.length p = false) : validB ps = false := by
  unfold validB
  rw [all_false_of h hp]
  simp
theorem validB_all {ps : List Pt} {p : Pt} (h2 : 2 ≤ ps.length) (h3 : ps.length ≤ 1024) (h : ps[1]? = some p) (hp : p.next.length = 0) (ha : ps.all (nextOk ps.length) = true) : validB ps = true := by
  unfold validB
  rw [h, ha]
  simp [hp, h2, h3]
theorem nextOk_bad {n : Nat} {p : Pt} {j : Nat} {x : Int} (h : p.next[j]? = some x) (hx : x < 1 ∨ (n : Int) ≤ x) : nextOk n p = false := by
  unfold nextOk
  refine all_false_of h ?_
  simp only [Bool.and_eq_false_iff, decide_eq_false_iff_not]
  omega

set_option maxHeartbeats 4000000 in
theorem validR_any (ps : List Pt) (A : Option Addr) (n c : Nat) (w : World) (hf : FlowAt w w.heap.size A ps) (hl : ps.length = n) (hn : n ≤ 100) (h8 : ∀ p ∈ ps, p.next.length ≤ 8) :
    Calls Tryz.prog 18 #[.agg #[.slice A n c]] w fun e w' => e = .returned (.bool (validB ps)) ∧ Below w.heap.size w w' := by
  obtain ⟨W, hW⟩ : ∃ W, w.alloc (.cells #[.slice A n c] 24) = W := ⟨_, rfl⟩
  have hb : Below w.heap.size w W := by rw [← hW]; exact below_alloc _ _
  have hx : Blk W w.heap.size 24 #[.slice A n c] := by rw [← hW]; exact Blk.new w _ _
  have hfW := hf.below hb (Nat.le_refl _)
  have HB := Lib.hid hb
  have HF := Lib.hid hfW
  have HX := Lib.hid hx
  have HL := Lib.hid hl
  have H8 := Lib.hid h8
  have hlt := hx.lt
  have x0 := hx.cell 0
  clear hf hb hx hl h8
  by_cases hn2 : n < 2
  · have hres := validB_short (ps := ps) (by rw [HL.out]; exact hn2)
    have HRES := Lib.hid hres
    have hni : (n : Int) < 2 := by omega
    clear hres hfW
    go_enter Tryz.func18, Tryz.ntmps18
    go_wp2_with (rw [hW])
    go_ret
    rw [HRES.out]
    exact ⟨rfl, HB.out⟩
  have hni : ¬ (n : Int) < 2 := by omega
  have hn24 : ¬ (1024 : Int) < (n : Int) := by omega
  have e1 : ps[1]? = some (ps[1]'(by rw [HL.out]; omega)) := List.getElem?_eq_getElem _
  generalize ps[1]'(by rw [HL.out]; omega) = p1 at e1
  obtain ⟨b0, o0, hA, hb0, h1, h2, A1, c1, h3, h4, h5, h6⟩ := hfW 1 _ e1
  subst hA
  obtain ⟨q1, hq1⟩ : ∃ q, p1.next.length = q := ⟨_, rfl⟩
  rw [hq1] at h3 h4
  have hq18 : q1 ≤ 8 := by rw [← hq1]; exact H8.out _ (List.mem_of_getElem? e1)
  have E1 := Lib.hid e1
  have HQ1 := Lib.hid hq1
  have h1n : (1 : Nat) < n := by omega
  have h1ni : (1 : Int) < (n : Int) := by omega
  have h3' : W.cell? ⟨b0, o0 + 3 + 2, none⟩ = some (.slice A1 q1 c1) := h3
  clear hfW e1 hq1 h1 h2 h3 h5 h6
  by_cases hq0 : q1 = 0
  case neg =>
    have hres := validB_exit E1.out (by rw [HQ1.out]; exact hq0)
    have HRES := Lib.hid hres
    have hqi : (0 : Int) < (q1 : Int) := by omega
    clear hres
    go_enter Tryz.func18, Tryz.ntmps18
    go_wp2_with (rw [hW])
    go_ret
    rw [HRES.out]
    exact ⟨rfl, HB.out⟩
  subst hq0
  go_enter Tryz.func18, Tryz.ntmps18
  go_wp2_with (rw [hW])
  clear hW h3' h4
  go_loopg [4] n (fun gk s wr => ∃ k : Nat, k + gk = n ∧ s = .int .i64 k ∧ Below W.heap.size W wr ∧ (ps.take k).all (nextOk n) = true)
  case atStart => exact ⟨0, by omega, rfl, Below.refl _ _, rfl⟩
  case round =>
    obtain ⟨k, hk, rfl, hB, ht⟩ := hrel
    have hk' : k ≤ n := by omega
    have HK := Lib.hid hk
    have HT := Lib.hid ht
    have HBr := Lib.hid hB
    clear hk ht
    by_cases hltk : k < n
    · have e1 : ps[k]? = some (ps[k]'(by rw [HL.out]; exact hltk)) := List.getElem?_eq_getElem _
      generalize ps[k]'(by rw [HL.out]; exact hltk) = p at e1
      obtain ⟨q, hq⟩ : ∃ q, p.next.length = q := ⟨_, rfl⟩
      have hq8 : q ≤ 8 := by rw [← hq]; exact H8.out _ (List.mem_of_getElem? e1)
      have E1 := Lib.hid e1
      have HQ := Lib.hid hq
      have hkn : (k : Int) < (n : Int) := by omega
      clear e1 hq hB
      go_wp2_with fail
      obtain ⟨wo, rfl⟩ : ∃ wo : World, wo = wr := ⟨_, rfl⟩
      obtain ⟨go, rfl⟩ : ∃ go : Nat, go = gk := ⟨_, rfl⟩
      go_loopg [5] q (fun gk s wr => ∃ j : Nat, j + gk = q ∧ s = .int .i64 j ∧ Below W.heap.size W wr ∧ (p.next.take j).all (fun k => decide (1 ≤ k) && decide (k < (n : Int))) = true)
      case atStart => exact ⟨0, by omega, rfl, HBr.out, rfl⟩
      case round =>
        obtain ⟨j, hj, rfl, hB, ht⟩ := hrel
        have hj' : j ≤ q := by omega
        have HJ := Lib.hid hj
        have HU := Lib.hid ht
        have HB2 := Lib.hid hB
        have hxr := HX.out.below hB hlt
        have x0 := hxr.cell 0
        have lx := hxr.lt
        obtain ⟨b1, o1, hA1, hb1, h1, h2, A2, c2, h3, h4, h5, h6⟩ := (HF.out.below hB HB.out.size) k _ E1.out
        cases hA1
        rw [HQ.out] at h3 h4
        clear hj ht hxr h1 h2 h5 hB
        by_cases hltj : j < q
        · have e2 : p.next[j]? = some (p.next[j]'(by rw [HQ.out]; exact hltj)) := List.getElem?_eq_getElem _
          generalize p.next[j]'(by rw [HQ.out]; exact hltj) = x at e2
          obtain ⟨b2, o2, hA2, hb2, hc2⟩ := h6 j _ e2
          subst hA2
          have hy : wr.cell? ⟨b2, o2 + j, none⟩ = some (.int .i64 x) := by simpa using hc2 0 _ rfl
          have E2 := Lib.hid e2
          have hjq : (j : Int) < (q : Int) := by omega
          clear h6 e2 hc2
          by_cases hx1 : x < 1
          · have hres := validB_bad E1.out (nextOk_bad E2.out (.inl hx1))
            have HRES := Lib.hid hres
            clear hres
            go_wp2_with fail
            go_ret
            rw [HRES.out]
            exact ⟨rfl, HB.out.trans (HB2.out.mono HB.out.size)⟩
          by_cases hxn : (n : Int) ≤ x
          · have hres := validB_bad E1.out (nextOk_bad E2.out (.inr (by rw [HL.out]; exact hxn)))
            have HRES := Lib.hid hres
            clear hres
            go_wp2_with fail
            go_ret
            rw [HRES.out]
            exact ⟨rfl, HB.out.trans (HB2.out.mono HB.out.size)⟩
          have hs : (p.next.take (j + 1)).all (fun k => decide (1 ≤ k) && decide (k < (n : Int))) = true := by
            rw [all_take_succ E2.out, HU.out]
            simp
            omega
          have HS := Lib.hid hs
          clear hs
          go_wp2_with fail
          go_roundg (gk - 1)
          case measure => have := HJ.out; omega
          case rel => exact ⟨j + 1, by have := HJ.out; omega, by go_num, HB2.out, HS.out⟩
        · have hs : (ps.take (k + 1)).all (nextOk n) = true := by
            rw [all_take_succ E1.out, HT.out]
            unfold nextOk
            rw [← all_take_all (k := j) (by rw [HQ.out]; omega), HU.out]
            rfl
          have HS := Lib.hid hs
          clear hs h6
          go_wp2_with fail
          go_roundg (go - 1)
          case measure => have := HK.out; omega
          case rel => exact ⟨k + 1, by have := HK.out; omega, by go_num, HB2.out, HS.out⟩
    · have hres : validB ps = true := by
        refine validB_all (by rw [HL.out]; omega) (by rw [HL.out]; omega) E1.out HQ1.out ?_
        rw [HL.out, ← all_take_all (k := k) (by rw [HL.out]; omega), HT.out]
      have HRES := Lib.hid hres
      clear hres
      go_wp2_with fail
      go_ret
      rw [HRES.out]
      exact ⟨rfl, HB.out.trans (HBr.out.mono HB.out.size)⟩

end Go.Proofs.YtlclpcobblojnaaGreatDoor
/- flow.valid, walked. -/
namespace Go.Proofs.YtlclpcobblojnaaGreatDoor
open Go.RowKit

def okK (n : Nat) (k : Int) : Bool := decide (1 ≤ k) && decide (k < (n : Int))
theorem nextOk_eq (n : Nat) (p : Pt) : nextOk n p = p.next.all (okK n) := rfl

theorem validf_any (x : Int) (A : Option Addr) (n c g : Nat) (w : World) (hg : Blk w g 24 #[.slice A n c]) :
    Calls Tryz.prog 36 #[.int .i64 x, .pointer (some ⟨g, 0, none⟩)] w fun e w' => e = .returned (.bool (!okK n x)) ∧ Below w.heap.size w w' := by
  have c0 := hg.cell 0
  have lg := hg.lt
  clear hg
  by_cases h1 : x < 1
  · have hr : okK n x = false := by unfold okK; simp; omega
    have HR := Lib.hid hr
    clear hr
    go_enter Tryz.func36, Tryz.ntmps36
    go_wp2_with fail
    go_ret
    rw [HR.out]
    exact ⟨rfl, Below.refl _ _⟩
  · have hr : okK n x = decide (x < (n : Int)) := by unfold okK; rw [decide_eq_true (by omega)]; rfl
    have HR := Lib.hid hr
    clear hr
    by_cases h2 : x < (n : Int)
    · go_enter Tryz.func36, Tryz.ntmps36
      go_wp2_with fail
      go_ret
      rw [HR.out]
      exact ⟨ret_bool (by simp [h2]), Below.refl _ _⟩
    · go_enter Tryz.func36, Tryz.ntmps36
      go_wp2_with fail
      go_ret
      rw [HR.out]
      exact ⟨ret_bool (by simp [h2]), Below.refl _ _⟩

set_option maxHeartbeats 1000000 in
theorem indexV_any (AF : Option Addr) (N cF g : Nat) (A : Option Addr) (n c : Nat) (l : List Int) (w : World) (hg : Blk w g 24 #[.slice AF N cF]) (h1 : RowAt 1 intCells w w.heap.size A l) (hl : l.length = n) (hn : n ≤ 1000) :
    Calls Tryz.prog 62 #[.slice A n c, .func (Fn.func 36) #[] #[.pointer (some ⟨g, 0, none⟩)]] w fun e w' => (∃ i : Int, e = .returned (.int .i64 i) ∧ decide (0 ≤ i) = !(l.all (okK N))) ∧ Below w.heap.size w w' := by
  have HG := Lib.hid hg
  have H1 := Lib.hid h1
  have HL1 := Lib.hid hl
  clear h1 hl hg
  go_enter Tryz.func62, Tryz.ntmps62
  go_wp2_with fail
  go_loopg [5, 8] n (fun gk s5 s8 wr => ∃ k : Nat, k + gk = n ∧ s8 = .int .i64 k ∧ Below w.heap.size w wr ∧ (l.take k).all (okK N) = true)
  case atStart => exact ⟨0, by omega, rfl, Below.refl _ _, rfl⟩
  case round =>
    obtain ⟨k, hk, rfl, hbr, ht⟩ := hrel
    have HK := Lib.hid hk
    have HT := Lib.hid ht
    have HBR := Lib.hid hbr
    have hk' : k ≤ n := by omega
    clear hk ht
    by_cases hlt : k < n
    · have e1 : l[k]? = some (l[k]'(by rw [HL1.out]; exact hlt)) := List.getElem?_eq_getElem _
      generalize l[k]'(by rw [HL1.out]; exact hlt) = y at e1
      obtain ⟨b1, o1, hA1, hb1, hc1⟩ := H1.out k _ e1
      subst hA1
      have hx0 : wr.cell? ⟨b1, o1 + k, none⟩ = some (.int .i64 y) := (hbr.cell (p := ⟨b1, _, none⟩) hb1).trans (by simpa using hc1 0 _ rfl)
      have hkn : (k : Int) < (n : Int) := by omega
      have E1 := Lib.hid e1
      have hgr := HG.out.below hbr HG.out.lt
      have HCL := Lib.hid (validf_any y AF N cF g wr hgr)
      clear hc1 e1 hgr hbr
      go_wp2_with fail
      refine HCL.out.mono ?_
      rintro e w2 ⟨rfl, hb2⟩
      have HB2 := Lib.hid (HBR.out.trans (hb2.mono HBR.out.size))
      clear hb2 hx0
      obtain ⟨q, hq⟩ : ∃ q, okK N y = q := ⟨_, rfl⟩
      rw [hq]
      have HQ := Lib.hid hq
      clear hq
      cases q
      · have hres : l.all (okK N) = false := all_false_of E1.out HQ.out
        have HRES := Lib.hid hres
        clear hres
        go_wp2_with fail
        go_ret
        exact ⟨⟨(k : Int), rfl, by rw [HRES.out]; simp⟩, HB2.out⟩
      · have hs : (l.take (k + 1)).all (okK N) = true := by
          rw [all_take_succ E1.out, HT.out, HQ.out]
          rfl
        have HS := Lib.hid hs
        clear hs
        go_wp2_with fail
        go_roundg (gk - 1)
        case measure => have := HK.out; omega
        case rel => exact ⟨k + 1, by have := HK.out; omega, by go_num, HB2.out, HS.out⟩
    · have hres : l.all (okK N) = true := by
        rw [← all_take_all (k := k) (by rw [HL1.out]; omega), HT.out]
      have HRES := Lib.hid hres
      clear hres hbr
      go_wp2_with fail
      go_ret
      exact ⟨⟨-1, rfl, by rw [HRES.out]; rfl⟩, HBR.out⟩

theorem containsV_any (AF : Option Addr) (N cF g : Nat) (A : Option Addr) (n c : Nat) (l : List Int) (w : World) (hg : Blk w g 24 #[.slice AF N cF]) (h1 : RowAt 1 intCells w w.heap.size A l) (hl : l.length = n) (hn : n ≤ 1000) :
    Calls Tryz.prog 35 #[.slice A n c, .func (Fn.func 36) #[] #[.pointer (some ⟨g, 0, none⟩)]] w fun e w' => e = .returned (.bool (!(l.all (okK N)))) ∧ Below w.heap.size w w' := by
  have HI := Lib.hid (indexV_any AF N cF g A n c l w hg h1 hl hn)
  clear hg h1 hl hn
  go_enter Tryz.func35, Tryz.ntmps35
  go_wp2_with fail
  refine HI.out.mono ?_
  rintro e w2 ⟨⟨i, rfl, hi⟩, hb2⟩
  have HI2 := Lib.hid hi
  clear hi
  go_wp2_with fail
  go_ret
  exact ⟨ret_bool (by rw [← HI2.out]), hb2⟩

set_option maxHeartbeats 4000000 in
set_option maxRecDepth 10000 in
theorem valid_any (ps : List Pt) (A : Option Addr) (n c : Nat) (w : World) (hf : FlowAt w w.heap.size A ps) (hl : ps.length = n) (hn : n ≤ 100) (h8 : ∀ p ∈ ps, p.next.length ≤ 8) :
    Calls Tryz.prog 22 #[.agg #[.slice A n c]] w fun e w' => e = .returned (.bool (validB ps)) ∧ Below w.heap.size w w' := by
  obtain ⟨W, hW⟩ : ∃ W, w.alloc (.cells #[.slice A n c] 24) = W := ⟨_, rfl⟩
  have hb : Below w.heap.size w W := by rw [← hW]; exact below_alloc _ _
  have hx : Blk W w.heap.size 24 #[.slice A n c] := by rw [← hW]; exact Blk.new w _ _
  have hfW := hf.below hb (Nat.le_refl _)
  have HB := Lib.hid hb
  have HF := Lib.hid hfW
  have HX := Lib.hid hx
  have HL := Lib.hid hl
  have H8 := Lib.hid h8
  have hlt := hx.lt
  have x0 := hx.cell 0
  clear hf hb hx hl h8
  by_cases hn2 : n < 2
  · have hres := validB_short (ps := ps) (by rw [HL.out]; exact hn2)
    have HRES := Lib.hid hres
    have hni : (n : Int) < 2 := by omega
    clear hres hfW
    go_enter Tryz.func22, Tryz.ntmps22
    go_wp2_with (rw [hW])
    go_ret
    rw [HRES.out]
    exact ⟨rfl, HB.out⟩
  have hni : ¬ (n : Int) < 2 := by omega
  have hn24 : ¬ (1024 : Int) < (n : Int) := by omega
  have e1 : ps[1]? = some (ps[1]'(by rw [HL.out]; omega)) := List.getElem?_eq_getElem _
  generalize ps[1]'(by rw [HL.out]; omega) = p1 at e1
  obtain ⟨b0, o0, hA, hb0, h1, h2, A1, c1, h3, h4, h5, h6⟩ := hfW 1 _ e1
  subst hA
  obtain ⟨q1, hq1⟩ : ∃ q, p1.next.length = q := ⟨_, rfl⟩
  rw [hq1] at h3 h4
  have hq18 : q1 ≤ 8 := by rw [← hq1]; exact H8.out _ (List.mem_of_getElem? e1)
  have E1 := Lib.hid e1
  have HQ1 := Lib.hid hq1
  have h1n : (1 : Nat) < n := by omega
  have h1ni : (1 : Int) < (n : Int) := by omega
  have h3' : W.cell? ⟨b0, o0 + 3 + 2, none⟩ = some (.slice A1 q1 c1) := h3
  clear hfW e1 hq1 h1 h2 h3 h5 h6
  by_cases hq0 : q1 = 0
  case neg =>
    have hres := validB_exit E1.out (by rw [HQ1.out]; exact hq0)
    have HRES := Lib.hid hres
    have hqi : (0 : Int) < (q1 : Int) := by omega
    clear hres
    go_enter Tryz.func22, Tryz.ntmps22
    go_wp2_with (rw [hW])
    go_ret
    rw [HRES.out]
    exact ⟨rfl, HB.out⟩
  subst hq0
  go_enter Tryz.func22, Tryz.ntmps22
  go_wp2_with (rw [hW])
  clear hW h3' h4
  go_loopg [27] n (fun gk s wr => ∃ k : Nat, k + gk = n ∧ s = .int .i64 k ∧ Below W.heap.size W wr ∧ (ps.take k).all (nextOk n) = true)
  case atStart => exact ⟨0, by omega, rfl, Below.refl _ _, rfl⟩
  case round =>
    obtain ⟨k, hk, rfl, hB, ht⟩ := hrel
    have hk' : k ≤ n := by omega
    have HK := Lib.hid hk
    have HT := Lib.hid ht
    have HBr := Lib.hid hB
    clear hk ht
    by_cases hltk : k < n
    · have e1 : ps[k]? = some (ps[k]'(by rw [HL.out]; exact hltk)) := List.getElem?_eq_getElem _
      generalize ps[k]'(by rw [HL.out]; exact hltk) = p at e1
      obtain ⟨pk, pn, pl⟩ := p
      obtain ⟨q, hq⟩ : ∃ q, pl.length = q := ⟨_, rfl⟩
      have hq8 : q ≤ 8 := by rw [← hq]; exact H8.out _ (List.mem_of_getElem? e1)
      obtain ⟨b1, o1, hA1, hb1, h1, h2, A2, c2, h3, h4, h5, h6⟩ := (HF.out.below hB HB.out.size) k _ e1
      cases hA1
      replace h3 : wr.cell? ⟨b0, o0 + k * 3 + 2, none⟩ = some (.slice A2 pl.length c2) := h3
      replace h1 : wr.cell? ⟨b0, o0 + k * 3, none⟩ = some (.int .i64 pk) := h1
      replace h2 : wr.cell? ⟨b0, o0 + k * 3 + 1, none⟩ = some (.int .i64 pn) := h2
      rw [hq] at h3
      obtain ⟨W2, hW2⟩ : ∃ W2, wr.alloc (.cells #[.int .i64 pk, .int .i64 pn, .slice A2 q c2] 38) = W2 := ⟨_, rfl⟩
      have hb2 : Below wr.heap.size wr W2 := by rw [← hW2]; exact below_alloc _ _
      have hy : Blk W2 wr.heap.size 38 #[.int .i64 pk, .int .i64 pn, .slice A2 q c2] := by rw [← hW2]; exact Blk.new wr _ _
      have hxr := (HX.out.below hB hlt).below hb2 (HX.out.below hB hlt).lt
      replace h6 : RowAt 1 intCells wr w.heap.size A2 pl := h6
      have HCN := Lib.hid (containsV_any (some ⟨b0, o0, none⟩) n c w.heap.size A2 q c2 pl W2 hxr ((h6.below (hb2.mono (Nat.le_trans HB.out.size hB.size)) (Nat.le_refl _)).mono (Nat.le_trans HB.out.size (Nat.le_trans hB.size hb2.size))) hq (by omega))
      have HB2 := Lib.hid (hB.trans (hb2.mono hB.size))
      have y2 := hy.cell 2
      have ly := hy.lt
      have E1 := Lib.hid e1
      have hkn : (k : Int) < (n : Int) := by omega
      clear e1 hq hB hxr hb2 hy h5 h6
      go_wp2_with (rw [hW2])
      refine HCN.out.mono ?_
      rintro e w3 ⟨rfl, hb3⟩
      have HB3 := Lib.hid (HB2.out.trans (hb3.mono HB2.out.size))
      clear hb3 h1 h2 h3 y2 ly hW2
      obtain ⟨r, hr⟩ : ∃ r, pl.all (okK n) = r := ⟨_, rfl⟩
      rw [hr]
      have HR := Lib.hid hr
      clear hr
      cases r
      · have hres : validB ps = false := validB_bad E1.out (by rw [nextOk_eq, HL.out]; exact HR.out)
        have HRES := Lib.hid hres
        clear hres
        go_wp2_with fail
        go_ret
        rw [HRES.out]
        exact ⟨rfl, HB.out.trans (HB3.out.mono HB.out.size)⟩
      · have hs : (ps.take (k + 1)).all (nextOk n) = true := by
          rw [all_take_succ E1.out, HT.out, nextOk_eq]
          exact HR.out
        have HS := Lib.hid hs
        clear hs
        go_wp2_with fail
        go_roundg (gk - 1)
        case measure => have := HK.out; omega
        case rel => exact ⟨k + 1, by have := HK.out; omega, by go_num, HB3.out, HS.out⟩
    · have hres : validB ps = true := by
        refine validB_all (by rw [HL.out]; omega) (by rw [HL.out]; omega) E1.out HQ1.out ?_
        rw [HL.out, ← all_take_all (k := k) (by rw [HL.out]; omega), HT.out]
      have HRES := Lib.hid hres
      clear hres
      go_wp2_with fail
      go_ret
      rw [HRES.out]
      exact ⟨rfl, HB.out.trans (HBr.out.mono HB.out.size)⟩

end Go.Proofs.YtlclpcobblojnaaGreatDoor
/- Blocks of ints and of bools of the call's own. -/
namespace Go.Proofs.YtlclpcobblojnaaGreatDoor
open Go.RowKit

theorem int_info : (Tryz.prog.info? 3).map (fun i => (i.zero, i.size, i.bytes)) = some (some (.int .i64 0), 1, 8) := by kernel_rfl
theorem boo_info : (Tryz.prog.info? 4).map (fun i => (i.zero, i.size, i.bytes)) = some (some (.bool false), 1, 1) := by kernel_rfl
theorem ints_info : (Tryz.prog.info? 28).map (fun i => (i.zero, i.size, i.bytes)) = some (some (.slice none 0 0), 1, 24) := by kernel_rfl

def boolCells (z : Bool) : List Value := [.bool z]
abbrev ivs (l : List Int) : List Value := l.map (Value.int .i64)
theorem ivs_flat (l : List Int) : ivs l = l.flatMap intCells := by
  induction l with
  | nil => rfl
  | cons a l ih => rw [List.flatMap_cons, ← ih]; rfl
theorem ivs_one (l : List Int) : ∀ u ∈ ivs l, u.oneCell' = true := by
  intro u hu
  obtain ⟨z, _, rfl⟩ := List.mem_map.1 hu
  rfl

theorem OwnS.mono' {w : World} {base base' : Nat} {e : TypeId} {size : Nat} {v : Value} {n : Nat} {xs : List Value} (h : OwnS w base e size v n xs) (hb : ∀ g, v.ownBlock = some g → base' ≤ g) : OwnS w base' e size v n xs := by
  refine ⟨h.1, ?_⟩
  rcases h.2 with h0 | ⟨g, off, cap, cur, hv, hb', rest⟩
  · exact .inl h0
  · exact .inr ⟨g, off, cap, cur, hv, hb g (by rw [hv]; rfl), rest⟩

/-- Block g is just the ints l, none frozen. -/
def IntsBlk (w : World) (g : Nat) (l : List Int) : Prop := w.heap[g]? = some (.cells (l.map (Value.int .i64)).toArray 3 (0, 0))
section
variable {w w' : World} {g : Nat} {l : List Int}
theorem IntsBlk.lt (h : IntsBlk w g l) : g < w.heap.size := (Array.getElem?_eq_some_iff.1 h).1
theorem IntsBlk.cell (h : IntsBlk w g l) {i : Nat} {x : Int} (hi : l[i]? = some x) : w.cell? ⟨g, i, none⟩ = some (.int .i64 x) := by
  rw [cell_of_row w g i _ _ (0, 0) h]
  simp [hi]
theorem IntsBlk.frozen (h : IntsBlk w g l) (i : Nat) : w.frozen? ⟨g, i, none⟩ = false := by
  unfold IntsBlk at h
  simp [World.frozen?, h]
theorem IntsBlk.keep (h : IntsBlk w g l) (hk : w'.heap[g]? = w.heap[g]?) : IntsBlk w' g l := hk.trans h
theorem IntsBlk.alloc (h : IntsBlk w g l) (o : Obj) : IntsBlk (w.alloc o) g l := h.keep (Below.heap_alloc w o g h.lt)
theorem IntsBlk.drew (h : IntsBlk w g l) : IntsBlk w.drew g l := h
theorem IntsBlk.drewN (h : IntsBlk w g l) (n : Nat) : IntsBlk (w.drewN n) g l := h
theorem IntsBlk.far (h : IntsBlk w g l) {p : Addr} (hp : g ≠ p.block) (u : Value) : IntsBlk (w.setCell p u) g l := h.keep (Below.heap_setCell w p u g hp)
theorem IntsBlk.below {B : Nat} (h : IntsBlk w g l) (hb : Below B w w') (hg : g < B) : IntsBlk w' g l := h.keep (hb.block g hg)
theorem IntsBlk.grown {row : Option Nat} (h : IntsBlk w g l) (hb : w.grownBy w' row) (hg : some g ≠ row) : IntsBlk w' g l := h.keep (hb.block g h.lt hg)
theorem IntsBlk.set (h : IntsBlk w g l) (i : Nat) (x : Int) : IntsBlk (w.setCell ⟨g, i, none⟩ (.int .i64 x)) g (l.set i x) := by
  unfold IntsBlk at h ⊢
  simp [World.setCell, Array.getElem?_modify, h, List.map_set]
theorem IntsBlk.new (w : World) (l : List Int) : IntsBlk (w.alloc (.cells (l.map (Value.int .i64)).toArray 3)) w.heap.size l := heap_alloc_new w _
end

/-- Block g is just the bools l, none frozen. -/
def BoolsBlk (w : World) (g : Nat) (l : List Bool) : Prop := w.heap[g]? = some (.cells (l.map Value.bool).toArray 4 (0, 0))
section
variable {w w' : World} {g : Nat} {l : List Bool}
theorem BoolsBlk.lt (h : BoolsBlk w g l) : g < w.heap.size := (Array.getElem?_eq_some_iff.1 h).1
theorem BoolsBlk.cell (h : BoolsBlk w g l) {i : Nat} {x : Bool} (hi : l[i]? = some x) : w.cell? ⟨g, i, none⟩ = some (.bool x) := by
  rw [cell_of_row w g i _ _ (0, 0) h]
  simp [hi]
theorem BoolsBlk.frozen (h : BoolsBlk w g l) (i : Nat) : w.frozen? ⟨g, i, none⟩ = false := by
  unfold BoolsBlk at h
  simp [World.frozen?, h]
theorem BoolsBlk.keep (h : BoolsBlk w g l) (hk : w'.heap[g]? = w.heap[g]?) : BoolsBlk w' g l := hk.trans h
theorem BoolsBlk.alloc (h : BoolsBlk w g l) (o : Obj) : BoolsBlk (w.alloc o) g l := h.keep (Below.heap_alloc w o g h.lt)
theorem BoolsBlk.drew (h : BoolsBlk w g l) : BoolsBlk w.drew g l := h
theorem BoolsBlk.drewN (h : BoolsBlk w g l) (n : Nat) : BoolsBlk (w.drewN n) g l := h
theorem BoolsBlk.far (h : BoolsBlk w g l) {p : Addr} (hp : g ≠ p.block) (u : Value) : BoolsBlk (w.setCell p u) g l := h.keep (Below.heap_setCell w p u g hp)
theorem BoolsBlk.below {B : Nat} (h : BoolsBlk w g l) (hb : Below B w w') (hg : g < B) : BoolsBlk w' g l := h.keep (hb.block g hg)
theorem BoolsBlk.grown {row : Option Nat} (h : BoolsBlk w g l) (hb : w.grownBy w' row) (hg : some g ≠ row) : BoolsBlk w' g l := h.keep (hb.block g h.lt hg)
theorem BoolsBlk.set (h : BoolsBlk w g l) (i : Nat) (x : Bool) : BoolsBlk (w.setCell ⟨g, i, none⟩ (.bool x)) g (l.set i x) := by
  unfold BoolsBlk at h ⊢
  simp [World.setCell, Array.getElem?_modify, h, List.map_set]
theorem BoolsBlk.new (w : World) (l : List Bool) : BoolsBlk (w.alloc (.cells (l.map Value.bool).toArray 4)) w.heap.size l := heap_alloc_new w _
theorem BoolsBlk.rowAt (h : BoolsBlk w g l) : RowAt 1 boolCells w w.heap.size (some ⟨g, 0, none⟩) l := fun k c hk =>
  ⟨g, 0, rfl, h.lt, fun j v hj => by
    cases j with
    | zero => simp [boolCells] at hj; subst hj; simpa using h.cell hk
    | succ j => simp [boolCells] at hj⟩
end

/-- make([]int, n), make([]bool, n), make([][]int, n). -/
theorem run_make_ints (n : Nat) (hn : n ≤ 1000000) (w : World) :
    (Instr.makeSlice 28 (.int .i64 (n : Int)) (.int .i64 (n : Int))).run Tryz.prog w = .ok (.slice (some ⟨w.heap.size, 0, none⟩) n n) (w.alloc (.cells ((List.replicate n (0 : Int)).map (Value.int .i64)).toArray 3)) := by
  obtain ⟨i0, hi0, hz0, hz1, hz2⟩ := info_parts int_info
  have h := run_make (P := Tryz.prog) w 28 3 i0 _ Tryz.underlying28 hi0 hz0 .i64 .i64 n n (by omega) (by omega) (by rw [hz2]; omega) (by omega)
  rw [h]
  simp only [Int.toNat_natCast, hz1, Nat.mul_one]
  have h2 : madeCells (Value.int .i64 0).cells n = ((List.replicate n (0 : Int)).map (Value.int .i64)).toArray := by
    apply Array.ext'
    show (madeCells #[Value.int .i64 0] n).toList = _
    rw [toList_madeCells_one]
    simp
  rw [h2]
theorem run_make_bools (n : Nat) (hn : n ≤ 1000000) (w : World) :
    (Instr.makeSlice 34 (.int .i64 (n : Int)) (.int .i64 (n : Int))).run Tryz.prog w = .ok (.slice (some ⟨w.heap.size, 0, none⟩) n n) (w.alloc (.cells ((List.replicate n false).map Value.bool).toArray 4)) := by
  obtain ⟨i0, hi0, hz0, hz1, hz2⟩ := info_parts boo_info
  have h := run_make (P := Tryz.prog) w 34 4 i0 _ Tryz.underlying34 hi0 hz0 .i64 .i64 n n (by omega) (by omega) (by rw [hz2]; omega) (by omega)
  rw [h]
  simp only [Int.toNat_natCast, hz1, Nat.mul_one]
  have h2 : madeCells (Value.bool false).cells n = ((List.replicate n false).map Value.bool).toArray := by
    apply Array.ext'
    show (madeCells #[Value.bool false] n).toList = _
    rw [toList_madeCells_one]
    simp
  rw [h2]
theorem run_make_rows (n : Nat) (hn : n ≤ 1000000) (w : World) :
    (Instr.makeSlice 31 (.int .i64 (n : Int)) (.int .i64 (n : Int))).run Tryz.prog w = .ok (.slice (some ⟨w.heap.size, 0, none⟩) n n) (w.alloc (.cells (List.replicate n (Value.slice none 0 0)).toArray 28)) := by
  obtain ⟨i0, hi0, hz0, hz1, hz2⟩ := info_parts ints_info
  have h := run_make (P := Tryz.prog) w 31 28 i0 _ Tryz.underlying31 hi0 hz0 .i64 .i64 n n (by omega) (by omega) (by rw [hz2]; omega) (by omega)
  rw [h]
  simp only [Int.toNat_natCast, hz1, Nat.mul_one]
  have h2 : madeCells (Value.slice none 0 0).cells n = (List.replicate n (Value.slice none 0 0)).toArray := by
    apply Array.ext'
    show (madeCells #[Value.slice none 0 0] n).toList = _
    rw [toList_madeCells_one]
  rw [h2]
end Go.Proofs.YtlclpcobblojnaaGreatDoor
/- Points, both, walked. -/
namespace Go.Proofs.YtlclpcobblojnaaGreatDoor
open Go.RowKit

/-- The numbers of the points with a node, from a number on. -/
def ptsM (node : Int) : List Pt → Nat → List Int
  | [], _ => []
  | p :: ps, i => (if p.node = node then [(i : Int)] else []) ++ ptsM node ps (i + 1)
def pointsM (ps : List Pt) (node : Int) : List Int := if validB ps = true ∧ 0 ≤ node then ptsM node ps 0 else []
theorem ptsM_take {node : Int} {p : Pt} : ∀ (ps : List Pt) (i k : Nat), ps[k]? = some p → ptsM node (ps.take (k + 1)) i = ptsM node (ps.take k) i ++ (if p.node = node then [((i + k : Nat) : Int)] else [])
  | [], i, k, h => by simp at h
  | q :: ps, i, 0, h => by
    simp at h
    subst h
    simp [ptsM]
  | q :: ps, i, k + 1, h => by
    have := ptsM_take (node := node) ps (i + 1) k (by simpa using h)
    simp only [List.take_succ_cons, ptsM, this, List.append_assoc]
    rw [show i + 1 + k = i + (k + 1) by omega]
theorem ptsM_len {node : Int} : ∀ (ps : List Pt) (i : Nat), (ptsM node ps i).length ≤ ps.length
  | [], i => by simp [ptsM]
  | q :: ps, i => by
    have := ptsM_len (node := node) ps (i + 1)
    unfold ptsM
    rw [List.length_append, List.length_cons]
    split <;> simp <;> omega

set_option maxHeartbeats 4000000 in
set_option maxRecDepth 10000 in
theorem points_any (ps : List Pt) (A : Option Addr) (n c : Nat) (node : Int) (w : World) (hf : FlowAt w w.heap.size A ps) (hl : ps.length = n) (hn : n ≤ 100) (h8 : ∀ p ∈ ps, p.next.length ≤ 8) :
    Calls Tryz.prog 8 #[.agg #[.slice A n c], .int .i64 node] w fun e w' => (∃ v, e = .returned v ∧ OwnS w' w.heap.size 3 1 v (pointsM ps node).length (ivs (pointsM ps node))) ∧ Below w.heap.size w w' := by
  obtain ⟨i0, hi0, hz0, hz1, hz2⟩ := info_parts int_info
  obtain ⟨W, hW⟩ : ∃ W, w.alloc (.cells #[.slice A n c] 24) = W := ⟨_, rfl⟩
  have hb : Below w.heap.size w W := by rw [← hW]; exact below_alloc _ _
  have hx : Blk W w.heap.size 24 #[.slice A n c] := by rw [← hW]; exact Blk.new w _ _
  have hfW := hf.below hb (Nat.le_refl _)
  have HV := Lib.hid (valid_any ps A n c W (hfW.mono hb.size) hl hn h8)
  have HB := Lib.hid hb
  have HF := Lib.hid hfW
  have HX := Lib.hid hx
  have HL := Lib.hid hl
  have hlt := hx.lt
  have x0 := hx.cell 0
  clear hf hb hx hl h8 hfW
  go_enter Tryz.func8, Tryz.ntmps8
  go_wp2_with (rw [hW])
  refine HV.out.mono ?_
  rintro e w2 ⟨rfl, hb2⟩
  have HB2 := Lib.hid hb2
  have hx2 := HX.out.below hb2 hlt
  have x2 := hx2.cell 0
  have l2 := hx2.lt
  clear hW x0 hb2 hx2 HV
  obtain ⟨V, hV⟩ : ∃ V, validB ps = V := ⟨_, rfl⟩
  rw [hV]
  have HVB := Lib.hid hV
  clear hV
  cases V
  case false =>
    have hres : pointsM ps node = [] := by unfold pointsM; rw [HVB.out]; simp
    have HRES := Lib.hid hres
    clear hres
    go_wp2_with fail
    go_ret
    rw [HRES.out]
    exact ⟨⟨_, rfl, OwnS.nil _ _ _ _⟩, HB.out.trans (HB2.out.mono HB.out.size)⟩
  by_cases hneg : node < 0
  · have hres : pointsM ps node = [] := by unfold pointsM; rw [if_neg (by omega)]
    have HRES := Lib.hid hres
    clear hres
    go_wp2_with fail
    go_ret
    rw [HRES.out]
    exact ⟨⟨_, rfl, OwnS.nil _ _ _ _⟩, HB.out.trans (HB2.out.mono HB.out.size)⟩
  have hres : pointsM ps node = ptsM node ps 0 := by unfold pointsM; rw [if_pos ⟨HVB.out, by omega⟩]
  have HRES := Lib.hid hres
  clear hres
  go_wp2_with fail
  go_loopg [5, 18] n (fun gk s5 s18 wr => ∃ k : Nat, k + gk = n ∧ s18 = .int .i64 k ∧ Below w2.heap.size w2 wr ∧ OwnS wr w2.heap.size 3 1 s5 (ptsM node (ps.take k) 0).length (ivs (ptsM node (ps.take k) 0)))
  case atStart => exact ⟨0, by omega, rfl, Below.refl _ _, OwnS.nil _ _ _ _⟩
  case round =>
    obtain ⟨k, hk, rfl, hB, ho⟩ := hrel
    have hk' : k ≤ n := by omega
    have HK := Lib.hid hk
    have HO := Lib.hid ho
    have HBr := Lib.hid (HB2.out.trans (hB.mono HB2.out.size))
    clear hk ho
    by_cases hltk : k < n
    · have e1 : ps[k]? = some (ps[k]'(by rw [HL.out]; exact hltk)) := List.getElem?_eq_getElem _
      generalize ps[k]'(by rw [HL.out]; exact hltk) = p at e1
      obtain ⟨pk, pn, pl⟩ := p
      obtain ⟨b1, o1, hA1, hb1, h1, h2, A2, c2, h3, h4, h5, h6⟩ := (HF.out.below HBr.out HB.out.size) k _ e1
      subst hA1
      replace h3 : wr.cell? ⟨b1, o1 + k * 3 + 2, none⟩ = some (.slice A2 pl.length c2) := h3
      replace h1 : wr.cell? ⟨b1, o1 + k * 3, none⟩ = some (.int .i64 pk) := h1
      replace h2 : wr.cell? ⟨b1, o1 + k * 3 + 1, none⟩ = some (.int .i64 pn) := h2
      obtain ⟨q, hq⟩ : ∃ q, pl.length = q := ⟨_, rfl⟩
      rw [hq] at h3
      have hst := ptsM_take (node := node) ps 0 k e1
      have hlen : (ptsM node (ps.take k) 0).length ≤ 100 := by
        have := ptsM_len (node := node) (ps.take k) 0
        have := List.length_take_le k ps
        omega
      have HST := Lib.hid hst
      obtain ⟨m, hm⟩ : ∃ m, (ptsM node (ps.take k) 0).length = m := ⟨_, rfl⟩
      have HO := HO.out
      rw [hm] at HO hlen
      obtain ⟨xs, hxs⟩ : ∃ xs, ptsM node (ps.take k) 0 = xs := ⟨_, rfl⟩
      rw [hxs] at HO hm
      have HO := Lib.hid HO
      have HXS := Lib.hid hxs
      have HM := Lib.hid hm
      have hkn : (k : Int) < (n : Int) := by omega
      obtain ⟨W3, hW3⟩ : ∃ W3, wr.alloc (.cells #[.int .i64 pk, .int .i64 pn, .slice A2 q c2] 38) = W3 := ⟨_, rfl⟩
      have hb3 : Below wr.heap.size wr W3 := by rw [← hW3]; exact below_alloc _ _
      have hy : Blk W3 wr.heap.size 38 #[.int .i64 pk, .int .i64 pn, .slice A2 q c2] := by rw [← hW3]; exact Blk.new wr _ _
      have ho3 : OwnS W3 w2.heap.size 3 1 u5 m (ivs xs) := by rw [← hW3]; exact HO.out.alloc _
      have y1 := hy.cell 1
      have ly := hy.lt
      have HO3 := Lib.hid ho3
      have HB3 := Lib.hid (hB.trans (hb3.mono hB.size))
      have hw3 : w2.heap.size ≤ W3.heap.size := Nat.le_trans hB.size hb3.size
      clear e1 hst hm hxs hB hy hb3 ho3 h5 h6 h4
      by_cases hpn : pn = node
      · subst hpn
        go_wp2_with (first | rw [hW3] | (at_builtin; go_must (refine wpList_append_S _ rfl (.tmp 27) (.tmp 29) _ rfl w2.heap.size 3 i0 _ 1 8 Tryz.underlying28 hi0 hz0 hz1 hz2 rfl u5 m (ivs xs) rfl (HO3.out.alloc _) ⟨W3.heap.size, 0, none⟩ 1 1 [.int .i64 (k : Int)] rfl rfl (news_one _ _ _ (by go_simp)) (by simp [Value.oneCell']) (by simp only [maxLen]; omega) (by omega) (by simp; omega) ?_); intro v' w4 hown hgrow hat))
        go_roundg (gk - 1)
        case measure => have := HK.out; omega
        case rel =>
          refine ⟨k + 1, by have := HK.out; omega, by go_num, ?_, ?_⟩
          · exact Below.grown (HB3.out.alloc HB3.out.size _) hgrow (by have := HB3.out.size; simp; omega) (fun g hg => (HO3.out.lt g hg).1)
          · rw [HST.out, HXS.out]
            simp only [if_true, List.length_append, List.length_singleton, HM.out, Nat.zero_add]
            simpa [ivs] using hown
      · go_wp2_with (rw [hW3])
        go_roundg (gk - 1)
        case measure => have := HK.out; omega
        case rel =>
          refine ⟨k + 1, by have := HK.out; omega, by go_num, HB3.out, ?_⟩
          rw [HST.out, HXS.out]
          simp only [if_neg hpn, List.append_nil]
          rw [HM.out]
          exact HO3.out
    · have hall : ps.take k = ps := List.take_of_length_le (by rw [HL.out]; omega)
      have HO := HO.out
      rw [hall] at HO
      have HO := Lib.hid HO
      clear hall hB
      go_wp2_with fail
      go_ret
      rw [HRES.out]
      exact ⟨⟨_, rfl, HO.out.mono (Nat.le_trans HB.out.size HB2.out.size)⟩, HB.out.trans (HBr.out.mono HB.out.size)⟩
end Go.Proofs.YtlclpcobblojnaaGreatDoor
/- The reference's Points, walked. -/
namespace Go.Proofs.YtlclpcobblojnaaGreatDoor
open Go.RowKit

set_option maxHeartbeats 4000000 in
set_option maxRecDepth 10000 in
theorem pointsR_any (ps : List Pt) (A : Option Addr) (n c : Nat) (node : Int) (w : World) (hf : FlowAt w w.heap.size A ps) (hl : ps.length = n) (hn : n ≤ 100) (h8 : ∀ p ∈ ps, p.next.length ≤ 8) :
    Calls Tryz.prog 9 #[.agg #[.slice A n c], .int .i64 node] w fun e w' => (∃ v, e = .returned v ∧ OwnS w' w.heap.size 3 1 v (pointsM ps node).length (ivs (pointsM ps node))) ∧ Below w.heap.size w w' := by
  obtain ⟨i0, hi0, hz0, hz1, hz2⟩ := info_parts int_info
  obtain ⟨W, hW⟩ : ∃ W, (w.alloc (.cells #[.slice A n c] 24)).alloc (.cells #[] 3) = W := ⟨_, rfl⟩
  have hb : Below w.heap.size w W := by rw [← hW]; exact (below_alloc _ _).alloc (by simp) _
  have hx : Blk W w.heap.size 24 #[.slice A n c] := by rw [← hW]; exact (Blk.new w _ _).alloc _
  have ho : OwnS W w.heap.size 3 1 (.slice (some ⟨w.heap.size + 1, 0, none⟩) 0 0) 0 [] := by
    rw [← hW]
    have := OwnS.block (w := (w.alloc (.cells #[.slice A n c] 24)).alloc (.cells #[] 3)) (base := w.heap.size) (size := 1) (g := w.heap.size + 1) (n := 0) (cur := #[]) (e := 3) (by omega) (by have := heap_alloc_new (w.alloc (.cells #[.slice A n c] 24)) (.cells #[] 3); simpa using this) (by simp [maxLen]) rfl
    simpa using this
  have hfW := hf.below hb (Nat.le_refl _)
  have HV : ∀ w' : World, Below (w.heap.size + 1) W w' → Calls Tryz.prog 18 #[.agg #[.slice A n c]] w' fun e w'' => e = .returned (.bool (validB ps)) ∧ Below w'.heap.size w' w'' := fun w' hb' => validR_any ps A n c w' ((hfW.below hb' (by omega)).mono (Nat.le_trans hb.size hb'.size)) hl hn h8
  have HV := Lib.hid HV
  have HB := Lib.hid hb
  have HF := Lib.hid hfW
  have HX := Lib.hid hx
  have HL := Lib.hid hl
  have HO0 := Lib.hid (ho.mono' (base' := w.heap.size + 1) (by intro g hg; simp [Value.ownBlock] at hg; omega))
  have hlt := hx.lt
  have hW2 : w.heap.size + 1 ≤ W.heap.size := by rw [← hW]; simp
  clear hf hb hx hl h8 hfW ho
  go_enter Tryz.func9, Tryz.ntmps9
  go_wp2_with (rw [hW])
  clear hW
  go_loopg [5, 6] n (fun gk s5 s6 wr => ∃ k : Nat, k + gk = n ∧ s6 = .int .i64 k ∧ Below (w.heap.size + 1) W wr ∧ OwnS wr (w.heap.size + 1) 3 1 s5 (ptsM node (ps.take k) 0).length (ivs (ptsM node (ps.take k) 0)) ∧ (k = 0 ∨ (validB ps = true ∧ 0 ≤ node)))
  case atStart => exact ⟨0, by omega, rfl, Below.refl _ _, HO0.out, .inl rfl⟩
  case round =>
    obtain ⟨k, hk, rfl, hB, ho, hor⟩ := hrel
    have hk' : k ≤ n := by omega
    have HK := Lib.hid hk
    have HO := Lib.hid ho
    have HBr := Lib.hid hB
    have HOR := Lib.hid hor
    have hxr := HX.out.below hB (by omega)
    have x0 := hxr.cell 0
    have lx := hxr.lt
    have HVC := Lib.hid (HV.out wr hB)
    clear hk ho hor hxr
    by_cases hltk : k < n
    case neg =>
      have hall : ps.take k = ps := List.take_of_length_le (by rw [HL.out]; omega)
      have hres : pointsM ps node = ptsM node (ps.take k) 0 := by
        rw [hall]
        unfold pointsM
        split
        · rfl
        · rename_i hne
          rcases HOR.out with h0 | h0
          · have : ps = [] := List.eq_nil_of_length_eq_zero (by rw [HL.out]; omega)
            rw [this]; rfl
          · exact absurd h0 hne
      have HRES := Lib.hid hres
      have hkn : ¬ (k : Int) < (n : Int) := by omega
      clear hall hres hB
      go_wp2_with fail
      go_ret
      rw [HRES.out]
      exact ⟨⟨_, rfl, HO.out.mono (by omega)⟩, HB.out.trans (HBr.out.mono (by omega))⟩
    have e1 : ps[k]? = some (ps[k]'(by rw [HL.out]; exact hltk)) := List.getElem?_eq_getElem _
    generalize ps[k]'(by rw [HL.out]; exact hltk) = p at e1
    obtain ⟨pk, pn, pl⟩ := p
    have E1 := Lib.hid e1
    have hkn : (k : Int) < (n : Int) := by omega
    clear e1 hB
    go_wp2_with fail
    refine HVC.out.mono ?_
    rintro e w2 ⟨rfl, hb2⟩
    have HB2 := Lib.hid (HBr.out.trans (hb2.mono (Nat.le_trans hW2 HBr.out.size)))
    have hO2 := HO.out.below hb2 (fun g hg => (HO.out.lt g hg).2)
    have HO2 := Lib.hid hO2
    have hxr := HX.out.below HB2.out (by omega)
    have x2 := hxr.cell 0
    have l2 := hxr.lt
    clear hb2 hO2 hxr x0 lx HVC
    obtain ⟨V, hV⟩ : ∃ V, validB ps = V := ⟨_, rfl⟩
    rw [hV]
    have HVB := Lib.hid hV
    clear hV
    have hend : (V = false ∨ node < 0) → ptsM node (ps.take k) 0 = [] ∧ pointsM ps node = [] := fun hh => by
      have hk0 : k = 0 := by
        rcases HOR.out with h0 | h0
        · exact h0
        · rw [HVB.out] at h0
          rcases hh with h1 | h1
          · rw [h1] at h0; cases h0.1
          · omega
      refine ⟨by rw [hk0]; rfl, ?_⟩
      unfold pointsM
      rw [if_neg]
      rintro ⟨h1, h2⟩
      rcases hh with h3 | h3
      · rw [HVB.out, h3] at h1; cases h1
      · omega
    have HEND := Lib.hid hend
    clear hend
    cases V
    case false =>
      have H1 := Lib.hid (HEND.out (.inl rfl))
      go_wp2_with fail
      go_ret
      have h1 := H1.out
      have h2 := HO2.out
      rw [h1.1] at h2
      rw [h1.2]
      exact ⟨⟨_, rfl, h2.mono (by omega)⟩, HB.out.trans (HB2.out.mono (by omega))⟩
    by_cases hneg : node < 0
    · have H1 := Lib.hid (HEND.out (.inr hneg))
      go_wp2_with fail
      go_ret
      have h1 := H1.out
      have h2 := HO2.out
      rw [h1.1] at h2
      rw [h1.2]
      exact ⟨⟨_, rfl, h2.mono (by omega)⟩, HB.out.trans (HB2.out.mono (by omega))⟩
    have hnn : (0 : Int) ≤ node := by omega
    obtain ⟨b1, o1, hA1, hb1, h1, h2, A2, c2, h3, h4, h5, h6⟩ := (HF.out.below HB2.out (by omega)) k _ E1.out
    subst hA1
    replace h2 : w2.cell? ⟨b1, o1 + k * 3 + 1, none⟩ = some (.int .i64 pn) := h2
    have hst := ptsM_take (node := node) ps 0 k E1.out
    have hlen : (ptsM node (ps.take k) 0).length ≤ 100 := by
      have := ptsM_len (node := node) (ps.take k) 0
      have := List.length_take_le k ps
      omega
    have HST := Lib.hid hst
    obtain ⟨m, hm⟩ : ∃ m, (ptsM node (ps.take k) 0).length = m := ⟨_, rfl⟩
    have hO3 := HO2.out
    rw [hm] at hO3 hlen
    obtain ⟨xs, hxs⟩ : ∃ xs, ptsM node (ps.take k) 0 = xs := ⟨_, rfl⟩
    rw [hxs] at hO3 hm
    have HO3 := Lib.hid hO3
    have HXS := Lib.hid hxs
    have HM := Lib.hid hm
    have hsz2 : w.heap.size + 1 ≤ w2.heap.size := Nat.le_trans hW2 HB2.out.size
    clear hst hm hxs hO3 h5 h6 h4 h1 h3
    by_cases hpn : pn = node
    · subst hpn
      go_wp2_with (at_builtin; go_must (refine wpList_append_S _ rfl (.tmp 31) (.tmp 33) _ rfl (w.heap.size + 1) 3 i0 _ 1 8 Tryz.underlying28 hi0 hz0 hz1 hz2 rfl u5 m (ivs xs) rfl (HO3.out.alloc _) ⟨w2.heap.size, 0, none⟩ 1 1 [.int .i64 (k : Int)] rfl rfl (news_one _ _ _ (by go_simp)) (by simp [Value.oneCell']) (by simp only [maxLen]; omega) (by omega) (by simp; omega) ?_); intro v' w4 hown hgrow hat)
      go_roundg (gk - 1)
      case measure => have := HK.out; omega
      case rel =>
        refine ⟨k + 1, by have := HK.out; omega, by go_num, ?_, ?_, .inr ⟨HVB.out, hnn⟩⟩
        · exact Below.grown (HB2.out.alloc hsz2 _) hgrow (by simp; omega) (fun g hg => (HO3.out.lt g hg).1)
        · rw [HST.out, HXS.out]
          simp only [if_true, List.length_append, List.length_singleton, HM.out, Nat.zero_add]
          simpa [ivs] using hown
    · go_wp2_with fail
      go_roundg (gk - 1)
      case measure => have := HK.out; omega
      case rel =>
        refine ⟨k + 1, by have := HK.out; omega, by go_num, HB2.out, ?_, .inr ⟨HVB.out, hnn⟩⟩
        rw [HST.out, HXS.out]
        simp only [if_neg hpn, List.append_nil]
        rw [HM.out]
        exact HO3.out
end Go.Proofs.YtlclpcobblojnaaGreatDoor
/- Comparers at equal lists, walked. -/
namespace Go.Proofs.YtlclpcobblojnaaGreatDoor
open Go.RowKit

/-- Rows of rows of ints, read through a slice at A. -/
def RowsAt (w : World) (B : Nat) (A : Option Addr) (L : List (List Int)) : Prop :=
  ∀ k l, L[k]? = some l → ∃ b off Ak ck, A = some ⟨b, off, none⟩ ∧ b < B ∧ w.cell? ⟨b, off + k, none⟩ = some (.slice Ak l.length ck) ∧ RowAt 1 intCells w B Ak l
theorem RowsAt.below {w w' : World} {B B' : Nat} {A : Option Addr} {L : List (List Int)} (h : RowsAt w B A L) (hb : Below B' w w') (hB : B ≤ B') : RowsAt w' B A L := fun k l hk =>
  let ⟨b, off, Ak, ck, h1, h2, h3, h4⟩ := h k l hk
  ⟨b, off, Ak, ck, h1, h2, (hb.cell (p := ⟨b, _, none⟩) (by show b < B'; omega)).trans h3, h4.below hb hB⟩
theorem RowsAt.mono {w : World} {B B' : Nat} {A : Option Addr} {L : List (List Int)} (h : RowsAt w B A L) (hB : B ≤ B') : RowsAt w B' A L := fun k l hk =>
  let ⟨b, off, Ak, ck, h1, h2, h3, h4⟩ := h k l hk
  ⟨b, off, Ak, ck, h1, by omega, h3, h4.mono hB⟩

theorem Ints_same (A1 A2 : Option Addr) (n c1 c2 : Nat) (l : List Int) (w : World) (h1 : RowAt 1 intCells w w.heap.size A1 l) (h2 : RowAt 1 intCells w w.heap.size A2 l) (hl : l.length = n) (hn : n ≤ 1000000) :
    Calls Tryz.prog 7 #[.slice A1 n c1, .slice A2 n c2] w fun e w' => e = .returned (.bool true) ∧ Below w.heap.size w w' := by
  have H1 := Lib.hid h1
  have H2 := Lib.hid h2
  have HL := Lib.hid hl
  clear h1 h2 hl
  go_enter Tryz.func7, Tryz.ntmps7
  go_wp2_with fail
  go_loopg [5] n (fun gk s wr => ∃ k : Nat, k + gk = n ∧ s = .int .i64 k ∧ Below w.heap.size w wr)
  case atStart => exact ⟨0, by omega, rfl, Below.refl _ _⟩
  case round =>
    obtain ⟨k, hk, rfl, hB⟩ := hrel
    have hk' : k ≤ n := by omega
    have HK := Lib.hid hk
    have HB := Lib.hid hB
    clear hk
    by_cases hlt : k < n
    · have e1 : l[k]? = some (l[k]'(by rw [HL.out]; exact hlt)) := List.getElem?_eq_getElem _
      generalize l[k]'(by rw [HL.out]; exact hlt) = x at e1
      obtain ⟨b1, o1, hA1, hb1, hc1⟩ := (H1.out.below hB (Nat.le_refl _)) k _ e1
      obtain ⟨b2, o2, hA2, hb2, hc2⟩ := (H2.out.below hB (Nat.le_refl _)) k _ e1
      subst hA1
      subst hA2
      have hx : wr.cell? ⟨b1, o1 + k, none⟩ = some (.int .i64 x) := by simpa using hc1 0 _ rfl
      have hy : wr.cell? ⟨b2, o2 + k, none⟩ = some (.int .i64 x) := by simpa using hc2 0 _ rfl
      have hkn : (k : Int) < (n : Int) := by omega
      clear hc1 hc2 e1 hB
      go_wp2_with fail
      go_quiet (fail)
      go_wp2_with fail
      go_roundg (gk - 1)
      case measure => have := HK.out; omega
      case rel => exact ⟨k + 1, by have := HK.out; omega, by go_num, have HBo := HB.out; by (repeat (first | exact Below.refl _ _ | assumption | refine Below.trans ?_ (Below.mono (by assumption) (by first | omega | (simp; done) | (simp; omega))) | refine Below.alloc ?_ (by first | omega | (simp; done) | (simp; omega)) _ | refine Below.setCell ?_ (by first | omega | (simp; done) | (simp; omega)) _ | refine Below.drew ?_ | refine below_drewN ?_ _))⟩
    · clear hB
      go_wp2_with fail
      go_ret
      exact ⟨rfl, HB.out⟩

theorem Bools_same (A1 A2 : Option Addr) (n c1 c2 : Nat) (l : List Bool) (w : World) (h1 : RowAt 1 boolCells w w.heap.size A1 l) (h2 : RowAt 1 boolCells w w.heap.size A2 l) (hl : l.length = n) (hn : n ≤ 1000000) :
    Calls Tryz.prog 13 #[.slice A1 n c1, .slice A2 n c2] w fun e w' => e = .returned (.bool true) ∧ Below w.heap.size w w' := by
  have H1 := Lib.hid h1
  have H2 := Lib.hid h2
  have HL := Lib.hid hl
  clear h1 h2 hl
  go_enter Tryz.func13, Tryz.ntmps13
  go_wp2_with fail
  go_loopg [5, 13] n (fun gk s5 s wr => ∃ k : Nat, k + gk = n ∧ s = .int .i64 k ∧ Below w.heap.size w wr)
  case atStart => exact ⟨0, by omega, rfl, Below.refl _ _⟩
  case round =>
    obtain ⟨k, hk, rfl, hB⟩ := hrel
    have hk' : k ≤ n := by omega
    have HK := Lib.hid hk
    have HB := Lib.hid hB
    clear hk
    by_cases hlt : k < n
    · have e1 : l[k]? = some (l[k]'(by rw [HL.out]; exact hlt)) := List.getElem?_eq_getElem _
      generalize l[k]'(by rw [HL.out]; exact hlt) = x at e1
      obtain ⟨b1, o1, hA1, hb1, hc1⟩ := (H1.out.below hB (Nat.le_refl _)) k _ e1
      obtain ⟨b2, o2, hA2, hb2, hc2⟩ := (H2.out.below hB (Nat.le_refl _)) k _ e1
      subst hA1
      subst hA2
      have hx : wr.cell? ⟨b1, o1 + k, none⟩ = some (.bool x) := by simpa using hc1 0 _ rfl
      have hy : wr.cell? ⟨b2, o2 + k, none⟩ = some (.bool x) := by simpa using hc2 0 _ rfl
      have hkn : (k : Int) < (n : Int) := by omega
      clear hc1 hc2 e1 hB
      cases x <;>
      · go_wp2_with fail
        go_quiet (fail)
        go_wp2_with fail
        go_roundg (gk - 1)
        case measure => have := HK.out; omega
        case rel => exact ⟨k + 1, by have := HK.out; omega, by go_num, have HBo := HB.out; by (repeat (first | exact Below.refl _ _ | assumption | refine Below.trans ?_ (Below.mono (by assumption) (by first | omega | (simp; done) | (simp; omega))) | refine Below.alloc ?_ (by first | omega | (simp; done) | (simp; omega)) _ | refine Below.setCell ?_ (by first | omega | (simp; done) | (simp; omega)) _ | refine Below.drew ?_ | refine below_drewN ?_ _))⟩
    · clear hB
      go_wp2_with fail
      go_ret
      exact ⟨rfl, HB.out⟩

set_option maxHeartbeats 1000000 in
theorem Lists_same (A1 A2 : Option Addr) (n c1 c2 : Nat) (L : List (List Int)) (w : World) (h1 : RowsAt w w.heap.size A1 L) (h2 : RowsAt w w.heap.size A2 L) (hl : L.length = n) (hn : n ≤ 1000000) (hs : ∀ l ∈ L, l.length ≤ 1000000) :
    Calls Tryz.prog 10 #[.slice A1 n c1, .slice A2 n c2] w fun e w' => e = .returned (.bool true) ∧ Below w.heap.size w w' := by
  have H1 := Lib.hid h1
  have H2 := Lib.hid h2
  have HL := Lib.hid hl
  have HS := Lib.hid hs
  clear h1 h2 hl hs
  go_enter Tryz.func10, Tryz.ntmps10
  go_wp2_with fail
  go_loopg [5] n (fun gk s wr => ∃ k : Nat, k + gk = n ∧ s = .int .i64 k ∧ Below w.heap.size w wr)
  case atStart => exact ⟨0, by omega, rfl, Below.refl _ _⟩
  case round =>
    obtain ⟨k, hk, rfl, hB⟩ := hrel
    have hk' : k ≤ n := by omega
    have HK := Lib.hid hk
    have HB := Lib.hid hB
    clear hk
    by_cases hlt : k < n
    · have e1 : L[k]? = some (L[k]'(by rw [HL.out]; exact hlt)) := List.getElem?_eq_getElem _
      generalize L[k]'(by rw [HL.out]; exact hlt) = l at e1
      have hln := HS.out _ (List.mem_of_getElem? e1)
      obtain ⟨b1, o1, Ak1, ck1, hA1, hb1, hc1, hr1⟩ := (H1.out.below hB (Nat.le_refl _)) k _ e1
      obtain ⟨b2, o2, Ak2, ck2, hA2, hb2, hc2, hr2⟩ := (H2.out.below hB (Nat.le_refl _)) k _ e1
      subst hA1
      subst hA2
      obtain ⟨m, hm⟩ : ∃ m, l.length = m := ⟨_, rfl⟩
      rw [hm] at hc1 hc2 hln
      have hkn : (k : Int) < (n : Int) := by omega
      have HM := Lib.hid hm
      have HE1 := Lib.hid e1
      clear hr1 hr2 e1 hB hm
      go_wp2_with fail
      go_quiet (fail)
      go_wp2_with fail
      clear hc1 hc2
      obtain ⟨wo, hwo⟩ : ∃ wo : World, Below w.heap.size w wo ∧ wo = wr.drew := ⟨_, by have HBo := HB.out; (repeat (first | exact Below.refl _ _ | assumption | refine Below.trans ?_ (Below.mono (by assumption) (by first | omega | (simp; done) | (simp; omega))) | refine Below.alloc ?_ (by first | omega | (simp; done) | (simp; omega)) _ | refine Below.setCell ?_ (by first | omega | (simp; done) | (simp; omega)) _ | refine Below.drew ?_ | refine below_drewN ?_ _)), rfl⟩
      obtain ⟨go, rfl⟩ : ∃ go : Nat, go = gk := ⟨_, rfl⟩
      go_loopg [6] m (fun gk s wr => ∃ j : Nat, j + gk = m ∧ s = .int .i64 j ∧ Below w.heap.size w wr)
      case atStart => exact ⟨0, by omega, rfl, by have HBo := HB.out; (repeat (first | exact Below.refl _ _ | assumption | refine Below.trans ?_ (Below.mono (by assumption) (by first | omega | (simp; done) | (simp; omega))) | refine Below.alloc ?_ (by first | omega | (simp; done) | (simp; omega)) _ | refine Below.setCell ?_ (by first | omega | (simp; done) | (simp; omega)) _ | refine Below.drew ?_ | refine below_drewN ?_ _))⟩
      case round =>
        obtain ⟨j, hj, rfl, hB⟩ := hrel
        have hj' : j ≤ m := by omega
        have HJ := Lib.hid hj
        have HB2 := Lib.hid hB
        clear hj hwo
        obtain ⟨b3, o3, Ak1, ck1, hA1, hb1, hc1, hr1⟩ := (H1.out.below hB (Nat.le_refl _)) k _ HE1.out
        obtain ⟨b4, o4, Ak2, ck2, hA2, hb2, hc2, hr2⟩ := (H2.out.below hB (Nat.le_refl _)) k _ HE1.out
        cases hA1
        cases hA2
        rw [HM.out] at hc1 hc2
        by_cases hltj : j < m
        · have e1 : l[j]? = some (l[j]'(by rw [HM.out]; exact hltj)) := List.getElem?_eq_getElem _
          generalize l[j]'(by rw [HM.out]; exact hltj) = x at e1
          obtain ⟨b5, o5, hA5, hb5, hc5⟩ := hr1 j _ e1
          obtain ⟨b6, o6, hA6, hb6, hc6⟩ := hr2 j _ e1
          subst hA5
          subst hA6
          have hx : wr.cell? ⟨b5, o5 + j, none⟩ = some (.int .i64 x) := by simpa using hc5 0 _ rfl
          have hy : wr.cell? ⟨b6, o6 + j, none⟩ = some (.int .i64 x) := by simpa using hc6 0 _ rfl
          have hjm : (j : Int) < (m : Int) := by omega
          clear hc5 hc6 e1 hB hr1 hr2
          go_wp2_with fail
          go_quiet (fail)
          go_wp2_with fail
          go_roundg (gk - 1)
          case measure => have := HJ.out; omega
          case rel => exact ⟨j + 1, by have := HJ.out; omega, by go_num, have HBo := HB2.out; by (repeat (first | exact Below.refl _ _ | assumption | refine Below.trans ?_ (Below.mono (by assumption) (by first | omega | (simp; done) | (simp; omega))) | refine Below.alloc ?_ (by first | omega | (simp; done) | (simp; omega)) _ | refine Below.setCell ?_ (by first | omega | (simp; done) | (simp; omega)) _ | refine Below.drew ?_ | refine below_drewN ?_ _))⟩
        · clear hB hr1 hr2
          go_wp2_with fail
          go_roundg (go - 1)
          case measure => have := HK.out; omega
          case rel => exact ⟨k + 1, by have := HK.out; omega, by go_num, HB2.out⟩
    · clear hB
      go_wp2_with fail
      go_ret
      exact ⟨rfl, HB.out⟩
end Go.Proofs.YtlclpcobblojnaaGreatDoor
