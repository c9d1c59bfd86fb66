/- FlowBlocks: for every flow the law returns true and its argument reads as before; no condition but that the listed tables are laid, which the card ties to the text. Part 2 of 8. -/
import Derived.Test.YtlclpcobblojnaaGreatDoorBlo01
/- The reference's Before, walked. -/
namespace Go.Proofs.YtlclpcobblojnaaGreatDoor
open Go.RowKit

/-- A slice of slices of ints, all the call's own. -/
def RowsOwn (w : World) (base : Nat) (v : Value) (L : List (List Int)) : Prop :=
  ∃ vals : List Value, vals.length = L.length ∧ OwnS w base 28 1 v L.length vals ∧ ∀ (k : Nat) (l : List Int), L[k]? = some l → ∃ x, vals[k]? = some x ∧ OwnS w base 3 1 x l.length (ivs l)
section
variable {w w' : World} {base : Nat} {v : Value} {L : List (List Int)}
theorem RowsOwn.keep (h : RowsOwn w base v L) (hk : ∀ g, base ≤ g → g < w.heap.size → w'.heap[g]? = w.heap[g]?) : RowsOwn w' base v L := by
  obtain ⟨vals, h1, h2, h3⟩ := h
  refine ⟨vals, h1, h2.of_block fun g hg => hk g (h2.lt g hg).1 (h2.lt g hg).2, fun k l hl => ?_⟩
  obtain ⟨x, h4, h5⟩ := h3 k l hl
  exact ⟨x, h4, h5.of_block fun g hg => hk g (h5.lt g hg).1 (h5.lt g hg).2⟩
theorem RowsOwn.below (h : RowsOwn w base v L) (hb : Below w.heap.size w w') : RowsOwn w' base v L := h.keep fun g _ hg => hb.block g hg
theorem RowsOwn.alloc (h : RowsOwn w base v L) (o : Obj) : RowsOwn (w.alloc o) base v L := h.below (below_alloc w o)
theorem RowsOwn.mono {base' : Nat} (h : RowsOwn w base v L) (hb : base' ≤ base) : RowsOwn w base' v L := by
  obtain ⟨vals, h1, h2, h3⟩ := h
  exact ⟨vals, h1, h2.mono hb, fun k l hl => let ⟨x, h4, h5⟩ := h3 k l hl; ⟨x, h4, h5.mono hb⟩⟩
theorem RowsOwn.nil (h : OwnS w base 28 1 v 0 []) : RowsOwn w base v [] := ⟨[], rfl, h, fun k l h => by simp at h⟩
theorem RowsOwn.push (h : RowsOwn w base v L) {x v' : Value} {l : List Int} (hx : OwnS w base 3 1 x l.length (ivs l)) (hz : ∀ vals, OwnS w base 28 1 v L.length vals → vals.length = L.length → (∀ (k : Nat) (l : List Int), L[k]? = some l → ∃ x, vals[k]? = some x ∧ OwnS w base 3 1 x l.length (ivs l)) → OwnS w' base 28 1 v' (L.length + 1) (vals ++ [x]) ∧ w.grownBy w' v.ownBlock) : RowsOwn w' base v' (L ++ [l]) := by
  obtain ⟨vals, h1, h2, h3⟩ := h
  obtain ⟨h4, h5⟩ := hz vals h2 h1 h3
  have hap : ∀ {y : Value} {n : Nat} {xs : List Value}, OwnS w base 3 1 y n xs → OwnS w' base 3 1 y n xs := fun {y n xs} hy =>
    hy.of_block fun g hg => h5.block g (hy.lt g hg).2 fun e => hy.apart h2 (by decide) g hg e.symm
  refine ⟨vals ++ [x], by simp [h1], by simpa using h4, fun k m hm => ?_⟩
  rw [List.getElem?_append] at hm
  split at hm
  · obtain ⟨y, h6, h7⟩ := h3 k m hm
    exact ⟨y, by rw [List.getElem?_append_left (by omega)]; exact h6, hap h7⟩
  · rename_i hlt
    have hk : k = L.length := by
      have := (List.getElem?_eq_some_iff.1 hm).1
      simp at this
      omega
    subst hk
    simp at hm
    subst hm
    exact ⟨x, by rw [List.getElem?_append_right (by omega)]; simp [h1], hap hx⟩
theorem RowsOwn.at_ (h : RowsOwn w base v L) : ∃ A c, v = .slice A L.length c ∧ L.length ≤ c ∧ c ≤ maxLen ∧ RowsAt w w.heap.size A L := by
  obtain ⟨vals, h1, h2, h3⟩ := h
  obtain ⟨A, c, hv, hc1, hc2⟩ := h2.shape
  refine ⟨A, c, hv, hc1, hc2, fun k l hl => ?_⟩
  have hkl : k < L.length := (List.getElem?_eq_some_iff.1 hl).1
  obtain ⟨g, off, cap, hv2, -, -, hg, hlt, hcell⟩ := h2.form (by omega)
  rw [hv] at hv2
  cases hv2
  obtain ⟨x, h4, h5⟩ := h3 k l hl
  obtain ⟨Ak, ck, rfl, -, -⟩ := h5.shape
  exact ⟨g, off, Ak, ck, rfl, hlt, hcell k _ h4, h5.rowAt rfl (ivs_flat l) (fun _ _ => rfl) rfl⟩
end

/-- The numbers of the points of which f is true. -/
def idxM (f : Pt → Bool) : List Pt → Nat → List Int
  | [], _ => []
  | p :: ps, i => (if f p then [(i : Int)] else []) ++ idxM f ps (i + 1)
theorem idxM_take {f : Pt → Bool} {p : Pt} : ∀ (ps : List Pt) (i k : Nat), ps[k]? = some p → idxM f (ps.take (k + 1)) i = idxM f (ps.take k) i ++ (if f p then [((i + k : Nat) : Int)] else [])
  | [], i, k, h => by simp at h
  | q :: ps, i, 0, h => by
    simp at h
    subst h
    simp [idxM]
  | q :: ps, i, k + 1, h => by
    have := idxM_take (f := f) ps (i + 1) k (by simpa using h)
    simp only [List.take_succ_cons, idxM, this, List.append_assoc]
    rw [show i + 1 + k = i + (k + 1) by omega]
theorem idxM_len {f : Pt → Bool} : ∀ (ps : List Pt) (i : Nat), (idxM f ps i).length ≤ ps.length
  | [], i => by simp [idxM]
  | q :: ps, i => by
    have := idxM_len (f := f) ps (i + 1)
    unfold idxM
    rw [List.length_append, List.length_cons]
    split <;> simp <;> omega
def leadsTo (b : Int) (p : Pt) : Bool := p.next.any fun k => k == b
def beforeUpto (ps : List Pt) (m : Nat) : List (List Int) := (List.range m).map fun b : Nat => idxM (leadsTo (b : Int)) ps 0
def beforeM (ps : List Pt) : List (List Int) := if validB ps then beforeUpto ps ps.length else []
theorem beforeUpto_succ (ps : List Pt) (m : Nat) : beforeUpto ps (m + 1) = beforeUpto ps m ++ [idxM (leadsTo (m : Int)) ps 0] := by
  unfold beforeUpto
  rw [List.range_succ, List.map_append]
  rfl
theorem beforeUpto_len (ps : List Pt) (m : Nat) : (beforeUpto ps m).length = m := by simp [beforeUpto]

/-- How many edges lead to b. -/
def cntM (b : Int) (l : List Int) : Nat := (l.filter fun k => k == b).length
theorem cntM_take {b x : Int} {l : List Int} {j : Nat} (h : l[j]? = some x) : cntM b (l.take (j + 1)) = cntM b (l.take j) + (if x = b then 1 else 0) := by
  unfold cntM
  rw [List.take_add_one, List.filter_append, List.length_append, h]
  by_cases e : x = b <;> simp [e]
theorem cntM_le {b : Int} {l : List Int} : cntM b l ≤ l.length := List.length_filter_le _ _
theorem leadsTo_iff {b : Int} {p : Pt} : leadsTo b p = decide (0 < cntM b p.next) := by
  unfold leadsTo cntM
  rw [Bool.eq_iff_iff, List.any_eq_true, decide_eq_true_iff, List.length_pos_iff_exists_mem]
  constructor
  · rintro ⟨x, h1, h2⟩; exact ⟨x, List.mem_filter.2 ⟨h1, h2⟩⟩
  · rintro ⟨x, h⟩; exact ⟨x, List.mem_filter.1 h⟩

set_option maxHeartbeats 1000000 in
theorem to_any (ps : List Pt) (A : Option Addr) (n c a : Nat) (b : Int) (p : Pt) (w : World) (hf : FlowAt w w.heap.size A ps) (hl : ps.length = n) (hn : n ≤ 100) (h8 : ∀ p ∈ ps, p.next.length ≤ 8) (hp : ps[a]? = some p) :
    Calls Tryz.prog 23 #[.agg #[.slice A n c], .int .i64 (a : Int), .int .i64 b] w fun e w' => e = .returned (.int .i64 (cntM b p.next : Int)) ∧ Below w.heap.size w w' := by
  obtain ⟨W, hW⟩ : ∃ W, w.alloc (.cells #[.slice A n c] 24) = W := ⟨_, rfl⟩
  have hb : Below w.heap.size w W := by rw [← hW]; exact below_alloc _ _
  have hx : Blk W w.heap.size 24 #[.slice A n c] := by rw [← hW]; exact Blk.new w _ _
  have hfW := hf.below hb (Nat.le_refl _)
  have han : a < n := by rw [← hl]; exact (List.getElem?_eq_some_iff.1 hp).1
  have hani : (a : Int) < (n : Int) := by omega
  have hq8 := h8 _ (List.mem_of_getElem? hp)
  obtain ⟨pk, pn, pl⟩ := p
  obtain ⟨q, hq⟩ : ∃ q, pl.length = q := ⟨_, rfl⟩
  replace hq8 : q ≤ 8 := by rw [← hq]; exact hq8
  have HQ := Lib.hid hq
  have HB := Lib.hid hb
  have HF := Lib.hid hfW
  have HX := Lib.hid hx
  have HP := Lib.hid hp
  have hlt := hx.lt
  show Calls Tryz.prog 23 #[.agg #[.slice A n c], .int .i64 (a : Int), .int .i64 b] w fun e w' => e = .returned (.int .i64 (cntM b pl : Int)) ∧ Below w.heap.size w w'
  clear hf hb hx hl h8 hfW hp hq
  go_enter Tryz.func23, Tryz.ntmps23
  go_wp2_with (rw [hW])
  clear hW
  go_loopg [7, 8] q (fun gk s7 s wr => ∃ k : Nat, k + gk = q ∧ s = .int .i64 k ∧ s7 = .int .i64 (cntM b (pl.take k) : Int) ∧ Below W.heap.size W wr)
  case atStart => exact ⟨0, by omega, rfl, rfl, Below.refl _ _⟩
  case round =>
    obtain ⟨k, hk, rfl, rfl, hB⟩ := hrel
    have hk' : k ≤ q := by omega
    have HK := Lib.hid hk
    have hxr := HX.out.below hB hlt
    have x0 := hxr.cell 0
    have lx := hxr.lt
    have HB2 := Lib.hid (HB.out.trans (hB.mono HB.out.size))
    have HBr := Lib.hid hB
    obtain ⟨b1, o1, hA1, hb1, h1, h2, A2, c2, h3, h4, h5, h6⟩ := (HF.out.below hB HB.out.size) a _ HP.out
    subst hA1
    replace h3 : wr.cell? ⟨b1, o1 + a * 3 + 2, none⟩ = some (.slice A2 pl.length c2) := h3
    replace h6 : RowAt 1 intCells wr w.heap.size A2 pl := h6
    rw [HQ.out] at h3
    have hcl : cntM b (pl.take k) ≤ 8 := by
      have := cntM_le (b := b) (l := pl.take k)
      have := List.length_take_le k pl
      omega
    clear hk hxr h1 h2 h4 h5 hB
    by_cases hlt2 : k < q
    · have e1 : pl[k]? = some (pl[k]'(by rw [HQ.out]; exact hlt2)) := List.getElem?_eq_getElem _
      generalize pl[k]'(by rw [HQ.out]; exact hlt2) = x at e1
      obtain ⟨b2, o2, hA2, hb2, hc2⟩ := h6 k _ e1
      subst hA2
      have hy : wr.cell? ⟨b2, o2 + k, none⟩ = some (.int .i64 x) := by simpa using hc2 0 _ rfl
      have hkq : (k : Int) < (q : Int) := by omega
      have hst := cntM_take (b := b) e1
      obtain ⟨m, hm⟩ : ∃ m, cntM b (pl.take k) = m := ⟨_, rfl⟩
      rw [hm] at hst hcl ⊢
      have HST := Lib.hid hst
      clear h6 e1 hc2 hst hm
      by_cases hxb : x = b
      · subst hxb
        go_wp2_with fail
        go_roundg (gk - 1)
        case measure => have := HK.out; omega
        case rel => exact ⟨k + 1, by have := HK.out; omega, by go_num, by rw [HST.out]; simp, HBr.out⟩
      · go_wp2_with fail
        go_roundg (gk - 1)
        case measure => have := HK.out; omega
        case rel => exact ⟨k + 1, by have := HK.out; omega, by go_num, by rw [HST.out, if_neg hxb]; rfl, HBr.out⟩
    · have hall : pl.take k = pl := List.take_of_length_le (by rw [HQ.out]; omega)
      rw [hall] at hcl ⊢
      clear h6 hall
      go_wp2_with fail
      go_ret
      exact ⟨rfl, HB2.out⟩
end Go.Proofs.YtlclpcobblojnaaGreatDoor
/- The reference's Before, walked: whole. -/
namespace Go.Proofs.YtlclpcobblojnaaGreatDoor
open Go.RowKit

theorem ownS_empty (w : World) (base : Nat) (e : TypeId) (h : base ≤ w.heap.size) : OwnS (w.alloc (.cells #[] e)) base e 1 (.slice (some ⟨w.heap.size, 0, none⟩) 0 0) 0 [] := by
  have := OwnS.block (w := w.alloc (.cells #[] e)) (base := base) (size := 1) (g := w.heap.size) (n := 0) (cur := #[]) (e := e) h (heap_alloc_new w _) (by simp [maxLen]) rfl
  simpa using this

set_option maxHeartbeats 4000000 in
set_option maxRecDepth 10000 in
theorem beforeR_any (ps : List Pt) (A : Option Addr) (n c : Nat) (w : World) (hf : FlowAt w w.heap.size A ps) (hl : ps.length = n) (hn : n ≤ 100) (h8 : ∀ p ∈ ps, p.next.length ≤ 8) :
    Calls Tryz.prog 12 #[.agg #[.slice A n c]] w fun e w' => (∃ v, e = .returned v ∧ RowsOwn w' w.heap.size v (beforeM ps)) ∧ Below w.heap.size w w' := by
  obtain ⟨i0, hi0, hz0, hz1, hz2⟩ := info_parts int_info
  obtain ⟨k0, hk0, hy0, hy1, hy2⟩ := info_parts ints_info
  obtain ⟨W, hW⟩ : ∃ W, (w.alloc (.cells #[.slice A n c] 24)).alloc (.cells #[] 28) = W := ⟨_, rfl⟩
  have hb : Below w.heap.size w W := by rw [← hW]; exact (below_alloc _ _).alloc (by simp) _
  have hx : Blk W w.heap.size 24 #[.slice A n c] := by rw [← hW]; exact (Blk.new w _ _).alloc _
  have ho : OwnS W (w.heap.size + 1) 28 1 (.slice (some ⟨w.heap.size + 1, 0, none⟩) 0 0) 0 [] := by
    rw [← hW]
    have := ownS_empty (w.alloc (.cells #[.slice A n c] 24)) (w.heap.size + 1) 28 (by simp)
    simpa using this
  have hfW := hf.below hb (Nat.le_refl _)
  have HV := Lib.hid (validR_any ps A n c W (hfW.mono hb.size) hl hn h8)
  have HTO : ∀ w' : World, Below (w.heap.size + 1) W w' → ∀ (a : Nat) (b : Int) (p : Pt), ps[a]? = some p → Calls Tryz.prog 23 #[.agg #[.slice A n c], .int .i64 (a : Int), .int .i64 b] w' fun e w'' => e = .returned (.int .i64 (cntM b p.next : Int)) ∧ Below w'.heap.size w' w'' := fun w' hb' a b p hp => to_any ps A n c a b p w' ((hfW.below hb' (by omega)).mono (Nat.le_trans hb.size hb'.size)) hl hn h8 hp
  have HTO := Lib.hid HTO
  have HB := Lib.hid hb
  have HX := Lib.hid hx
  have HL := Lib.hid hl
  have H8 := Lib.hid h8
  have HO0 := Lib.hid ho
  have x0 := hx.cell 0
  have lx := hx.lt
  have hW2 : w.heap.size + 1 ≤ W.heap.size := by rw [← hW]; simp
  clear hf hb hx hl h8 hfW ho
  go_enter Tryz.func12, Tryz.ntmps12
  go_wp2_with (rw [hW])
  refine HV.out.mono ?_
  rintro e w2 ⟨rfl, hb2⟩
  have HB2 := Lib.hid (hb2.mono hW2)
  have hx2 := HX.out.below hb2 lx
  have x2 := hx2.cell 0
  have l2 := hx2.lt
  have HO2 := Lib.hid (HO0.out.below hb2 (fun g hg => (HO0.out.lt g hg).2))
  clear hW x0 hb2 hx2 HV lx HO0
  obtain ⟨V, hV⟩ : ∃ V, validB ps = V := ⟨_, rfl⟩
  rw [hV]
  have HVB := Lib.hid hV
  clear hV
  cases V
  case false =>
    have hres : beforeM ps = [] := by unfold beforeM; rw [HVB.out]; rfl
    have HRES := Lib.hid hres
    clear hres
    go_wp2_with fail
    go_ret
    rw [HRES.out]
    exact ⟨⟨_, rfl, (RowsOwn.nil HO2.out).mono (by omega)⟩, HB.out.trans (HB2.out.mono (by omega))⟩
  have hres : beforeM ps = beforeUpto ps ps.length := by unfold beforeM; rw [HVB.out]; rfl
  have HRES := Lib.hid hres
  clear hres
  go_wp2_with fail
  go_loopg [3, 4] n (fun gk s3 s wr => ∃ k : Nat, k + gk = n ∧ s = .int .i64 k ∧ RowsOwn wr (w.heap.size + 1) s3 (beforeUpto ps k) ∧ Below (w.heap.size + 1) W wr)
  case atStart => exact ⟨0, by omega, rfl, RowsOwn.nil HO2.out, HB2.out⟩
  case round =>
    obtain ⟨k, hk, rfl, ho, hB⟩ := hrel
    have hk' : k ≤ n := by omega
    have HK := Lib.hid hk
    have HO := Lib.hid ho
    have HBr := Lib.hid hB
    have hxr := HX.out.below hB (by omega)
    have x3 := hxr.cell 0
    have l3 := hxr.lt
    clear hk ho hxr hB x2 l2
    by_cases hltk : k < n
    case neg =>
      have hkn : k = n := by omega
      subst hkn
      go_wp2_with fail
      go_ret
      rw [HRES.out, HL.out]
      exact ⟨⟨_, rfl, HO.out.mono (by omega)⟩, HB.out.trans (HBr.out.mono (by omega))⟩
    have hkn : (k : Int) < (n : Int) := by omega
    obtain ⟨W3, hW3⟩ : ∃ W3, wr.alloc (.cells #[] 3) = W3 := ⟨_, rfl⟩
    have hb3 : Below wr.heap.size wr W3 := by rw [← hW3]; exact below_alloc _ _
    have hl3 : OwnS W3 wr.heap.size 3 1 (.slice (some ⟨wr.heap.size, 0, none⟩) 0 0) 0 [] := by rw [← hW3]; exact ownS_empty wr _ _ (Nat.le_refl _)
    have HB3 := Lib.hid hb3
    have HL3 := Lib.hid hl3
    have hsr : w.heap.size + 1 ≤ wr.heap.size := Nat.le_trans hW2 HBr.out.size
    have HSR := Lib.hid hsr
    clear hb3 hl3
    go_wp2_with (rw [hW3])
    clear hW3 x3 l3
    obtain ⟨wo, rfl⟩ : ∃ wo : World, wo = wr := ⟨_, rfl⟩
    obtain ⟨go, rfl⟩ : ∃ go : Nat, go = gk := ⟨_, rfl⟩
    go_loopg [5, 6] n (fun gk s5 s wr => ∃ j : Nat, j + gk = n ∧ s = .int .i64 j ∧ OwnS wr wo.heap.size 3 1 s5 (idxM (leadsTo (k : Int)) (ps.take j) 0).length (ivs (idxM (leadsTo (k : Int)) (ps.take j) 0)) ∧ Below wo.heap.size wo wr)
    case atStart => exact ⟨0, by omega, rfl, HL3.out, HB3.out⟩
    case round =>
      obtain ⟨j, hj, rfl, ho, hB⟩ := hrel
      have hj' : j ≤ n := by omega
      have HJ := Lib.hid hj
      have HI := Lib.hid ho
      have HBi := Lib.hid hB
      have HBw := Lib.hid (HBr.out.trans (hB.mono hsr))
      have hxr := HX.out.below HBw.out (by omega)
      have x3 := hxr.cell 0
      have l3 := hxr.lt
      clear hj ho hxr hB
      by_cases hltj : j < n
      · have e1 : ps[j]? = some (ps[j]'(by rw [HL.out]; exact hltj)) := List.getElem?_eq_getElem _
        generalize ps[j]'(by rw [HL.out]; exact hltj) = p at e1
        have hjn : (j : Int) < (n : Int) := by omega
        have HTC := Lib.hid (HTO.out wr HBw.out j (k : Int) p e1)
        have hst := idxM_take (f := leadsTo (k : Int)) ps 0 j e1
        rw [leadsTo_iff] at hst
        obtain ⟨q, hq⟩ : ∃ q, cntM (k : Int) p.next = q := ⟨_, rfl⟩
        have hq8 : q ≤ 8 := by
          rw [← hq]
          exact Nat.le_trans cntM_le (H8.out _ (List.mem_of_getElem? e1))
        rw [hq] at hst HTC
        have hlen : (idxM (leadsTo (k : Int)) (ps.take j) 0).length ≤ 100 := by
          have := idxM_len (f := leadsTo (k : Int)) (ps.take j) 0
          have := List.length_take_le j ps
          omega
        have hI := HI.out
        obtain ⟨xs, hxs⟩ : ∃ xs, idxM (leadsTo (k : Int)) (ps.take j) 0 = xs := ⟨_, rfl⟩
        rw [hxs] at hst hlen hI
        obtain ⟨m, hm⟩ : ∃ m, xs.length = m := ⟨_, rfl⟩
        rw [hm] at hlen hI
        have HI2 := Lib.hid hI
        have HST := Lib.hid hst
        have HM := Lib.hid hm
        clear e1 hst hm hxs hI hq
        go_wp2_with fail
        refine HTC.out.mono ?_
        rintro e w4 ⟨rfl, hb4⟩
        have hB4 := HBi.out.trans (hb4.mono HBi.out.size)
        have HB4 := Lib.hid hB4
        have HI4 := Lib.hid (HI2.out.below hb4 (fun g hg => (HI2.out.lt g hg).2))
        have hsz4 := hB4.size
        clear hb4 x3 l3 HTC hB4
        by_cases hq0 : q = 0
        · subst hq0
          go_wp2_with fail
          go_roundg (gk - 1)
          case measure => have := HJ.out; omega
          case rel =>
            refine ⟨j + 1, by have := HJ.out; omega, by go_num, ?_, HB4.out⟩
            rw [HST.out]
            simp only [decide_false, Nat.lt_irrefl, Bool.false_eq_true, if_false, List.append_nil, HM.out]
            exact HI4.out
        · have hqi : (0 : Int) < (q : Int) := by omega
          go_wp2_with (at_builtin; go_must (refine wpList_append_S _ rfl (.tmp 32) (.tmp 34) _ rfl wo.heap.size 3 i0 _ 1 8 Tryz.underlying28 hi0 hz0 hz1 hz2 rfl u5 m (ivs xs) rfl (HI4.out.alloc _) ⟨w4.heap.size, 0, none⟩ 1 1 [.int .i64 (j : Int)] rfl rfl (news_one _ _ _ (by go_simp)) (by simp [Value.oneCell']) (by simp only [maxLen]; omega) (by omega) (by simp; omega) ?_); intro v' w5 hown hgrow hat)
          go_roundg (gk - 1)
          case measure => have := HJ.out; omega
          case rel =>
            refine ⟨j + 1, by have := HJ.out; omega, by go_num, ?_, ?_⟩
            · rw [HST.out]
              simp only [show 0 < q by omega, decide_true, if_true, List.length_append, List.length_singleton, HM.out, Nat.zero_add]
              simpa [ivs] using hown
            · exact Below.grown (HB4.out.alloc HB4.out.size _) hgrow (by simp; omega) (fun g hg => (HI4.out.lt g hg).1)
      · have hall : ps.take j = ps := List.take_of_length_le (by rw [HL.out]; omega)
        have hI := HI.out
        rw [hall] at hI
        have hO := HO.out.below (HBi.out.mono (Nat.le_refl _))
        have hsi := HBi.out.size
        have HI2 := Lib.hid hI
        have HO2' := Lib.hid hO
        have hlk := beforeUpto_len ps k
        have hsr3 : w.heap.size + 1 ≤ wr.heap.size := Nat.le_trans hsr hsi
        clear hall hI hO
        obtain ⟨vals, hv1, hv2, hv3⟩ := HO2'.out
        rw [hlk] at hv1 hv2
        have HV1 := Lib.hid hv1
        have HV2 := Lib.hid hv2
        have HV3 := Lib.hid hv3
        have HLK := Lib.hid hlk
        clear hv1 hv2 hv3 hlk
        obtain ⟨ls, hls⟩ : ∃ ls, idxM (leadsTo (k : Int)) ps 0 = ls := ⟨_, rfl⟩
        have hI3 := HI2.out
        rw [hls] at hI3
        obtain ⟨m9, hm9⟩ : ∃ m9, ls.length = m9 := ⟨_, rfl⟩
        rw [hm9] at hI3
        have HI3 := Lib.hid hI3
        have HLS := Lib.hid hls
        have HM9 := Lib.hid hm9
        obtain ⟨A9, c9, hA9, -, -⟩ := hI3.shape
        subst hA9
        clear hI3 hls hm9 HI2
        go_wp2_with (at_builtin; go_must (refine wpList_append_S _ rfl (.tmp 36) (.tmp 38) _ rfl (w.heap.size + 1) 28 k0 _ 1 24 Tryz.underlying31 hk0 hy0 hy1 hy2 rfl u3 k vals rfl (HV2.out.alloc _) ⟨wr.heap.size, 0, none⟩ 1 1 [.slice A9 m9 c9] rfl rfl (news_one _ _ _ (by go_simp)) (by simp [Value.oneCell']) (by simp only [maxLen]; omega) (by omega) (by simp; omega) ?_); intro v' w5 hown hgrow hat)
        go_roundg (go - 1)
        case measure => have := HK.out; omega
        case rel =>
          refine ⟨k + 1, by have := HK.out; omega, by go_num, ?_, ?_⟩
          · rw [beforeUpto_succ, HLS.out]
            have hpu : RowsOwn (wr.alloc (.cells #[.slice A9 m9 c9] 28)) (w.heap.size + 1) u3 (beforeUpto ps k) := HO2'.out.alloc _
            refine ⟨vals ++ [.slice A9 m9 c9], by simp [HV1.out, HLK.out], by rw [List.length_append, HLK.out]; exact hown, fun i l hi => ?_⟩
            have hap : ∀ {y : Value} {n : Nat} {xs : List Value} {b : Nat}, OwnS wr b 3 1 y n xs → OwnS w5 b 3 1 y n xs := fun {y n xs b} hy =>
              (hy.alloc (.cells #[.slice A9 m9 c9] 28)).of_block fun g hg => hgrow.block g ((hy.alloc _).lt g hg).2 fun e => (hy.alloc (.cells #[.slice A9 m9 c9] 28)).apart (HV2.out.alloc _) (by decide) g hg e.symm
            rw [List.getElem?_append] at hi
            split at hi
            · obtain ⟨y, h6, h7⟩ := HV3.out i l hi
              have hik : i < vals.length := (List.getElem?_eq_some_iff.1 h6).1
              exact ⟨y, by rw [List.getElem?_append_left hik]; exact h6, hap h7⟩
            · rename_i hlt9
              have hi2 := (List.getElem?_eq_some_iff.1 hi).1
              rw [HLK.out] at hlt9 hi hi2
              simp at hi2
              have hik : i = k := by omega
              subst hik
              simp at hi
              subst hi
              refine ⟨.slice A9 m9 c9, by rw [List.getElem?_append_right (by rw [HV1.out]; exact Nat.le_refl _), HV1.out]; simp, ?_⟩
              rw [HM9.out]
              exact (hap HI3.out).mono HSR.out
          · exact Below.grown (HBw.out.alloc hsr3 _) hgrow (by simp; omega) (fun g hg => (HV2.out.lt g hg).1)
end Go.Proofs.YtlclpcobblojnaaGreatDoor
/- flow.Before, walked. -/
namespace Go.Proofs.YtlclpcobblojnaaGreatDoor
open Go.RowKit

/-- Block ge holds slices of ints, the call's own, no two in one block. -/
def RowsBlk (w : World) (base ge : Nat) (E : List (List Int)) : Prop :=
  ∃ vals : List Value, Blk w ge 28 vals.toArray ∧ vals.length = E.length ∧
    (∀ (v : Nat) (es : List Int), E[v]? = some es → ∃ x, vals[v]? = some x ∧ OwnS w base 3 1 x es.length (ivs es)) ∧
    (∀ (u v : Nat) (x y : Value), u ≠ v → vals[u]? = some x → vals[v]? = some y → ∀ g, x.ownBlock = some g → y.ownBlock ≠ some g)
theorem RowsBlk.keep {w w' : World} {base ge : Nat} {E : List (List Int)} (h : RowsBlk w base ge E) (hk : ∀ g, (g = ge ∨ base ≤ g) → g < w.heap.size → w'.heap[g]? = w.heap[g]?) : RowsBlk w' base ge E := by
  obtain ⟨vals, h1, h2, h3, h4⟩ := h
  refine ⟨vals, h1.keep (hk ge (.inl rfl) h1.lt), h2, fun v es hv => ?_, h4⟩
  obtain ⟨x, hx, ho⟩ := h3 v es hv
  exact ⟨x, hx, ho.of_block fun g hg => hk g (.inr (ho.lt g hg).1) (ho.lt g hg).2⟩
theorem RowsBlk.alloc {w : World} {base ge : Nat} {E : List (List Int)} (h : RowsBlk w base ge E) (o : Obj) : RowsBlk (w.alloc o) base ge E := h.keep fun g _ hg => Below.heap_alloc w o g hg
theorem RowsBlk.new (w : World) (base n : Nat) : RowsBlk (w.alloc (.cells (List.replicate n (Value.slice none 0 0)).toArray 28)) base w.heap.size (List.replicate n []) := by
  refine ⟨List.replicate n (Value.slice none 0 0), Blk.new w _ _, by simp, fun v es hv => ?_, fun u v x y _ hx _ g hg => ?_⟩
  · have h1 := (List.getElem?_eq_some_iff.1 hv).1
    simp at h1
    rw [List.getElem?_replicate, if_pos h1] at hv
    cases hv
    exact ⟨_, by rw [List.getElem?_replicate, if_pos h1], OwnS.nil _ _ _ _⟩
  · have h1 := (List.getElem?_eq_some_iff.1 hx).1
    simp at h1
    rw [List.getElem?_replicate, if_pos h1] at hx
    cases hx
    cases hg
theorem RowsBlk.rows {w : World} {base ge : Nat} {E : List (List Int)} (h : RowsBlk w base ge E) : RowsAt w w.heap.size (some ⟨ge, 0, none⟩) E := by
  obtain ⟨vals, h1, h2, h3, h4⟩ := h
  intro k l hl
  obtain ⟨x, hx, ho⟩ := h3 k l hl
  obtain ⟨Ak, ck, rfl, -, -⟩ := ho.shape
  exact ⟨ge, 0, Ak, ck, rfl, h1.lt, by rw [Nat.zero_add, h1.cell k]; simpa using hx, ho.rowAt rfl (ivs_flat l) (fun _ _ => rfl) rfl⟩
/-- What stands at v, and how it is put back. -/
theorem RowsBlk.at {w : World} {base ge : Nat} {E : List (List Int)} (h : RowsBlk w base ge E) {v : Nat} {es : List Int} (hv : E[v]? = some es) :
    ∃ x, w.cell? ⟨ge, v, none⟩ = some x ∧ w.frozen? ⟨ge, v, none⟩ = false ∧ ge < w.heap.size ∧ OwnS w base 3 1 x es.length (ivs es) ∧
      ∀ (w1 : World) (x' : Value) (e : Int), (∀ k, k < w.heap.size → some k ≠ x.ownBlock → w1.heap[k]? = w.heap[k]?) → w.heap.size ≤ w1.heap.size →
        OwnS w1 base 3 1 x' (es.length + 1) (ivs es ++ [.int .i64 e]) → (x'.ownBlock = x.ownBlock ∨ ∃ g, x'.ownBlock = some g ∧ w.heap.size ≤ g) → ge < base →
        RowsBlk (w1.setCell ⟨ge, v, none⟩ x') base ge (E.set v (es ++ [e])) := by
  obtain ⟨vals, h1, h2, h3, h4⟩ := h
  obtain ⟨x, hx, ho⟩ := h3 v es hv
  have hvl : v < vals.length := (List.getElem?_eq_some_iff.1 hx).1
  refine ⟨x, ?_, h1.frozen v, h1.lt, ho, ?_⟩
  · rw [h1.cell v]
    simpa using hx
  · intro w1 x' e hk hsz hown hat hge
    have hgx : some ge ≠ x.ownBlock := fun e1 => by have := (ho.lt ge e1.symm).1; omega
    have hb1 : Blk w1 ge 28 vals.toArray := h1.keep (hk ge h1.lt hgx)
    have hx'g : x'.ownBlock ≠ some ge := fun e1 => by have := (hown.lt ge e1).1; omega
    have hold : ∀ u y (es' : List Int), u ≠ v → vals[u]? = some y → OwnS w base 3 1 y es'.length (ivs es') → OwnS w1 base 3 1 y es'.length (ivs es') := fun u y es' hu hy hoy =>
      hoy.of_block fun g hg => hk g (hoy.lt g hg).2 (fun e1 => h4 u v y x hu hy hx g hg e1.symm)
    refine ⟨vals.set v x', ?_, by simpa using h2, fun u es' hu => ?_, fun u u' y y' hne hy hy' g hg => ?_⟩
    · have := hb1.set_ v x'
      simpa using this
    · rw [List.getElem?_set] at hu
      by_cases huv : v = u
      · subst huv
        rw [if_pos rfl] at hu
        have hvE : v < E.length := (List.getElem?_eq_some_iff.1 hv).1
        rw [if_pos hvE] at hu
        cases hu
        refine ⟨x', by simp [hvl], ?_⟩
        have hoo : OwnS w1 base 3 1 x' (es ++ [e]).length (ivs (es ++ [e])) := by
          rw [List.length_append]
          simpa [ivs] using hown
        exact hoo.setCell hx'g _
      · rw [if_neg huv] at hu
        obtain ⟨y, hy, hoy⟩ := h3 u es' hu
        refine ⟨y, by rw [List.getElem?_set, if_neg huv]; exact hy, (hold u y es' (Ne.symm huv) hy hoy).setCell (fun e1 => ?_) _⟩
        have := (hoy.lt ge e1).1
        omega
    · rw [List.getElem?_set] at hy hy'
      have key : ∀ (u : Nat) (y : Value), u ≠ v → vals[u]? = some y → ∀ g, y.ownBlock = some g → x'.ownBlock ≠ some g := fun u y hu hy g hg e1 => by
        have huE : u < E.length := by rw [← h2]; exact (List.getElem?_eq_some_iff.1 hy).1
        obtain ⟨y2, hy2, hoy⟩ := h3 u E[u] (List.getElem?_eq_getElem huE)
        rw [hy] at hy2
        cases hy2
        rcases hat with h5 | ⟨g5, h5, h6⟩
        · rw [h5] at e1
          exact h4 u v y x hu hy hx g hg e1
        · rw [h5] at e1
          cases e1
          have := (hoy.lt _ hg).2
          omega
      by_cases h1u : v = u
      · rw [if_pos h1u, if_pos hvl] at hy
        cases hy
        rw [if_neg (by rintro rfl; exact hne h1u.symm)] at hy'
        exact fun e1 => key u' y' (by rintro rfl; exact hne h1u.symm) hy' g e1 hg
      · rw [if_neg h1u] at hy
        by_cases h2u : v = u'
        · rw [if_pos h2u, if_pos hvl] at hy'
          cases hy'
          exact key u y (Ne.symm h1u) hy g hg
        · rw [if_neg h2u] at hy'
          exact h4 u u' y y' hne hy hy' g hg

/-- What stands on the way: i points done, and some successors of the next one. -/
def befRow (ps : List Pt) (i : Nat) (nx : List Int) (k : Nat) : List Int := idxM (leadsTo (k : Int)) (ps.take i) 0 ++ (if nx.any (fun x => x == (k : Int)) then [(i : Int)] else [])
def befE (ps : List Pt) (n i : Nat) (nx : List Int) : List (List Int) := (List.range n).map (befRow ps i nx)
theorem befE_get {ps : List Pt} {n i : Nat} {nx : List Int} {k : Nat} (h : k < n) : (befE ps n i nx)[k]? = some (befRow ps i nx k) := by
  unfold befE
  rw [List.getElem?_map, List.getElem?_range h]
  rfl
theorem befE_zero (ps : List Pt) (n : Nat) : befE ps n 0 [] = List.replicate n [] := by
  apply List.ext_getElem?
  intro k
  by_cases h : k < n
  · rw [befE_get h, List.getElem?_replicate, if_pos h]
    rfl
  · rw [List.getElem?_eq_none (by simp [befE]; omega), List.getElem?_eq_none (by simp; omega)]
theorem befE_next {ps : List Pt} {n i : Nat} {p : Pt} (h : ps[i]? = some p) : befE ps n i p.next = befE ps n (i + 1) [] := by
  unfold befE
  refine List.map_congr_left fun k _ => ?_
  unfold befRow
  rw [idxM_take ps 0 i h]
  simp [leadsTo]
theorem befE_all {ps : List Pt} {n : Nat} (h : ps.length = n) : befE ps n n [] = beforeUpto ps n := by
  unfold befE beforeUpto
  refine List.map_congr_left fun k _ => ?_
  unfold befRow
  rw [List.take_of_length_le (by omega)]
  simp
theorem idxM_lt {f : Pt → Bool} : ∀ (ps : List Pt) (i : Nat), ∀ x ∈ idxM f ps i, x < ((i + ps.length : Nat) : Int)
  | [], _, x, hx => by simp [idxM] at hx
  | p :: ps, i, x, hx => by
    unfold idxM at hx
    rcases List.mem_append.1 hx with h | h
    · split at h
      · simp at h; subst h; simp; omega
      · simp at h
    · have := idxM_lt ps (i + 1) x h
      simp only [List.length_cons]
      omega
/-- One more successor. -/
theorem befE_same {ps : List Pt} {n i : Nat} {nx : List Int} {x : Int} (h : nx.any (fun y => y == x) = true) : befE ps n i (nx ++ [x]) = befE ps n i nx := by
  unfold befE
  refine List.map_congr_left fun k _ => ?_
  unfold befRow
  rw [List.any_append]
  by_cases e : x = (k : Int)
  · subst e; rw [h]; simp
  · simp [e]
theorem befE_set {ps : List Pt} {n i : Nat} {nx : List Int} {x : Nat} (hx : x < n) (h : nx.any (fun y => y == (x : Int)) = false) : befE ps n i (nx ++ [(x : Int)]) = (befE ps n i nx).set x (befRow ps i nx x ++ [(i : Int)]) := by
  apply List.ext_getElem?
  intro k
  rw [List.getElem?_set]
  by_cases hk : k < n
  · rw [befE_get hk]
    by_cases e : x = k
    · subst e
      rw [if_pos rfl, if_pos (by simp [befE]; exact hx)]
      unfold befRow
      rw [List.any_append, h]
      simp
    · rw [if_neg e, befE_get hk]
      unfold befRow
      rw [List.any_append]
      have : ((x : Int) == (k : Int)) = false := by simp; omega
      simp [this]
  · have h1 : (befE ps n i (nx ++ [(x : Int)]))[k]? = none := List.getElem?_eq_none (by simp [befE]; omega)
    have h2 : (befE ps n i nx)[k]? = none := List.getElem?_eq_none (by simp [befE]; omega)
    rw [h1, h2]
    by_cases e : x = k
    · omega
    · rw [if_neg e]
/-- Whether the last one is i. -/
theorem befRow_last {ps : List Pt} {i : Nat} {nx : List Int} {k : Nat} : (nx.any (fun y => y == (k : Int)) = true → ∃ l, befRow ps i nx k = l ++ [(i : Int)]) ∧ (nx.any (fun y => y == (k : Int)) = false → ∀ x ∈ befRow ps i nx k, x ≠ (i : Int)) := by
  unfold befRow
  constructor
  · intro h
    rw [h]
    exact ⟨_, rfl⟩
  · intro h x hx
    rw [h] at hx
    simp at hx
    have := idxM_lt _ _ x hx
    have := List.length_take_le i ps
    omega
theorem befRow_len {ps : List Pt} {i : Nat} {nx : List Int} {k : Nat} : (befRow ps i nx k).length ≤ i + 1 := by
  unfold befRow
  have h1 := idxM_len (f := leadsTo (k : Int)) (ps.take i) 0
  have h2 := List.length_take_le i ps
  rw [List.length_append]
  split <;> simp <;> omega
end Go.Proofs.YtlclpcobblojnaaGreatDoor
/- flow.Before, walked: whole. -/
namespace Go.Proofs.YtlclpcobblojnaaGreatDoor
open Go.RowKit

set_option maxHeartbeats 8000000 in
set_option maxRecDepth 10000 in
theorem before_any (ps : List Pt) (A : Option Addr) (n c : Nat) (w : World) (hf : FlowAt w w.heap.size A ps) (hl : ps.length = n) (hn : n ≤ 100) (h8 : ∀ p ∈ ps, p.next.length ≤ 8) :
    Calls Tryz.prog 11 #[.agg #[.slice A n c]] w fun e w' => (∃ B d, e = .returned (.slice B (beforeM ps).length d) ∧ (beforeM ps).length ≤ d ∧ d ≤ maxLen ∧ RowsAt w' w'.heap.size B (beforeM ps)) ∧ Below w.heap.size w w' := by
  obtain ⟨i0, hi0, hz0, hz1, hz2⟩ := info_parts int_info
  have HMK := Lib.hid (fun w' : World => run_make_rows n (by omega) w')
  obtain ⟨W, hW⟩ : ∃ W, w.alloc (.cells #[.slice A n c] 24) = W := ⟨_, rfl⟩
  have hb : Below w.heap.size w W := by rw [← hW]; exact below_alloc _ _
  have hx : Blk W w.heap.size 24 #[.slice A n c] := by rw [← hW]; exact Blk.new w _ _
  have hfW := hf.below hb (Nat.le_refl _)
  have HV := Lib.hid (valid_any ps A n c W (hfW.mono hb.size) hl hn h8)
  have HB := Lib.hid hb
  have HF := Lib.hid hfW
  have HX := Lib.hid hx
  have HL := Lib.hid hl
  have H8 := Lib.hid h8
  have x0 := hx.cell 0
  have lx := hx.lt
  clear hf hb hx hl h8 hfW
  go_enter Tryz.func11, Tryz.ntmps11
  go_wp2_with (rw [hW])
  refine HV.out.mono ?_
  rintro e w2 ⟨rfl, hb2⟩
  have HB2 := Lib.hid hb2
  have hx2 := HX.out.below hb2 lx
  have x2 := hx2.cell 0
  have l2 := hx2.lt
  clear hW x0 hb2 hx2 HV
  obtain ⟨V, hV⟩ : ∃ V, validB ps = V := ⟨_, rfl⟩
  rw [hV]
  have HVB := Lib.hid hV
  clear hV
  cases V
  case false =>
    have hres : beforeM ps = [] := by unfold beforeM; rw [HVB.out]; rfl
    have HRES := Lib.hid hres
    clear hres
    go_wp2_with fail
    go_ret
    rw [HRES.out]
    exact ⟨⟨_, _, rfl, Nat.le_refl _, by simp [maxLen], fun k l h => by simp at h⟩, HB.out.trans (HB2.out.mono HB.out.size)⟩
  have hres : beforeM ps = beforeUpto ps n := by unfold beforeM; rw [HVB.out, HL.out]; rfl
  have HRES := Lib.hid hres
  clear hres
  have hmk := HMK.out w2
  obtain ⟨W3, hW3⟩ : ∃ W3, w2.alloc (.cells (List.replicate n (Value.slice none 0 0)).toArray 28) = W3 := ⟨_, rfl⟩
  rw [hW3] at hmk
  have hb3 : Below w2.heap.size w2 W3 := by rw [← hW3]; exact below_alloc _ _
  have hr3 : RowsBlk W3 (w2.heap.size + 1) w2.heap.size (befE ps n 0 []) := by rw [← hW3, befE_zero]; exact RowsBlk.new w2 _ n
  have hs3 : w2.heap.size + 1 ≤ W3.heap.size := by rw [← hW3]; simp
  obtain ⟨ge, hge⟩ : ∃ ge, w2.heap.size = ge := ⟨_, rfl⟩
  rw [hge] at hmk hr3 hs3 hb3 l2
  have HB3 := Lib.hid hb3
  have HR3 := Lib.hid hr3
  have HGE := Lib.hid hge
  have hx3 := (HX.out.below HB2.out lx).below hb3 l2
  have x3 := hx3.cell 0
  have l3 := hx3.lt
  have HX3 := Lib.hid hx3
  have HF3 := Lib.hid ((HF.out.below HB2.out HB.out.size).below hb3 (by have := HB.out.size; have := HB2.out.size; omega))
  have HWW : Hid (Below w.heap.size w W3) := Lib.hid (HB.out.trans ((HB2.out.mono HB.out.size).trans (hb3.mono (by have := HB.out.size; have := HB2.out.size; omega))))
  have hgew : w.heap.size < ge := by omega
  clear hb3 hr3 hx3 hW3 HMK hge HB2 HGE
  go_wp2_with fail
  clear hmk x2
  go_loopg [19] n (fun gk s wr => ∃ i : Nat, i + gk = n ∧ s = .int .i64 i ∧ Below ge W3 wr ∧ RowsBlk wr (ge + 1) ge (befE ps n i []))
  case atStart => exact ⟨0, by omega, rfl, Below.refl _ _, HR3.out⟩
  case round =>
    obtain ⟨i, hi, rfl, hB, hr⟩ := hrel
    have hi' : i ≤ n := by omega
    have HI := Lib.hid hi
    have HR := Lib.hid hr
    have HBr := Lib.hid hB
    have hszr : ge + 1 ≤ wr.heap.size := Nat.le_trans hs3 hB.size
    clear hi hr
    by_cases hlti : i < n
    case neg =>
      have hin : i = n := by omega
      subst hin
      have hr := HR.out
      rw [befE_all HL.out] at hr
      have hlen := beforeUpto_len ps i
      have HR2 := Lib.hid hr
      have HLN := Lib.hid hlen
      clear hr hlen hB
      go_wp2_with fail
      go_ret
      rw [HRES.out]
      refine ⟨⟨some ⟨ge, 0, none⟩, i, by rw [HLN.out]; rfl, by rw [HLN.out]; exact Nat.le_refl _, by simp only [maxLen]; omega, HR2.out.rows⟩, HWW.out.trans (HBr.out.mono (by omega))⟩
    have e1 : ps[i]? = some (ps[i]'(by rw [HL.out]; exact hlti)) := List.getElem?_eq_getElem _
    generalize ps[i]'(by rw [HL.out]; exact hlti) = p at e1
    have hok : nextOk ps.length p = true := by
      have := HVB.out
      unfold validB at this
      simp only [Bool.and_eq_true] at this
      exact List.all_eq_true.1 this.2.2.2 p (List.mem_of_getElem? e1)
    obtain ⟨pk, pn, pl⟩ := p
    replace hok : ∀ x ∈ pl, 1 ≤ x ∧ x < (n : Int) := fun x hx => by
      have h1 := List.all_eq_true.1 hok x hx
      rw [HL.out] at h1
      simpa using h1
    have hnx : befE ps n i pl = befE ps n (i + 1) [] := befE_next e1
    have HNX := Lib.hid hnx
    obtain ⟨b1, o1, hA1, hb1, h1, h2, A2, c2, h3, h4, h5, h6⟩ := (HF3.out.below hB (by omega)) i _ e1
    subst hA1
    replace h3 : wr.cell? ⟨b1, o1 + i * 3 + 2, none⟩ = some (.slice A2 pl.length c2) := h3
    replace h1 : wr.cell? ⟨b1, o1 + i * 3, none⟩ = some (.int .i64 pk) := h1
    replace h2 : wr.cell? ⟨b1, o1 + i * 3 + 1, none⟩ = some (.int .i64 pn) := h2
    replace h6 : RowAt 1 intCells wr w.heap.size A2 pl := h6
    obtain ⟨q, hq⟩ : ∃ q, pl.length = q := ⟨_, rfl⟩
    have hq8 : q ≤ 8 := by rw [← hq]; exact H8.out _ (List.mem_of_getElem? e1)
    rw [hq] at h3
    have HQ := Lib.hid hq
    have HOK := Lib.hid hok
    have HPS : Hid (i < ps.length) := Lib.hid (by rw [HL.out]; exact hlti)
    have hin : (i : Int) < (n : Int) := by omega
    obtain ⟨W4, hW4⟩ : ∃ W4, wr.alloc (.cells #[.int .i64 pk, .int .i64 pn, .slice A2 q c2] 38) = W4 := ⟨_, rfl⟩
    have hb4 : Below wr.heap.size wr W4 := by rw [← hW4]; exact below_alloc _ _
    have hy : Blk W4 wr.heap.size 38 #[.int .i64 pk, .int .i64 pn, .slice A2 q c2] := by rw [← hW4]; exact Blk.new wr _ _
    have hr4 : RowsBlk W4 (ge + 1) ge (befE ps n i []) := by rw [← hW4]; exact HR.out.alloc _
    have y2 := hy.cell 2
    have ly := hy.lt
    have HR4 := Lib.hid hr4
    have HB4 := Lib.hid (hB.trans (hb4.mono (by omega)))
    have HRW := Lib.hid (h6.below (hb4.mono (by omega)) (Nat.le_refl _))
    have hs4 : ge + 1 ≤ W4.heap.size := Nat.le_trans hszr hb4.size
    clear e1 hq hok hnx hB h4 h5 h6 hb4 hy hr4
    go_wp2_with (rw [hW4])
    clear hW4 h1 h2 h3 y2 ly x3
    obtain ⟨wo, rfl⟩ : ∃ wo : World, wo = wr := ⟨_, rfl⟩
    obtain ⟨go, rfl⟩ : ∃ go : Nat, go = gk := ⟨_, rfl⟩
    go_loopg [27] q (fun gk s wr => ∃ j : Nat, j + gk = q ∧ s = .int .i64 j ∧ Below ge W3 wr ∧ RowsBlk wr (ge + 1) ge (befE ps n i (pl.take j)) ∧ RowAt 1 intCells wr w.heap.size A2 pl)
    case atStart => exact ⟨0, by omega, rfl, HB4.out, HR4.out, HRW.out⟩
    case round =>
      obtain ⟨j, hj, rfl, hB, hr, hrw⟩ := hrel
      have hj' : j ≤ q := by omega
      have HJ := Lib.hid hj
      have HRi := Lib.hid hr
      have HBi := Lib.hid hB
      have hszi : ge + 1 ≤ wr.heap.size := Nat.le_trans hs3 hB.size
      clear hj hr
      by_cases hltj : j < q
      case neg =>
        have hall : pl.take j = pl := List.take_of_length_le (by rw [HQ.out]; omega)
        have hr := HRi.out
        rw [hall, HNX.out] at hr
        have HR5 := Lib.hid hr
        clear hall hr hB hrw
        go_wp2_with fail
        go_roundg (go - 1)
        case measure => have := HI.out; omega
        case rel => exact ⟨i + 1, by have := HI.out; omega, by go_num, HBi.out, HR5.out⟩
      have e2 : pl[j]? = some (pl[j]'(by rw [HQ.out]; exact hltj)) := List.getElem?_eq_getElem _
      generalize pl[j]'(by rw [HQ.out]; exact hltj) = x at e2
      obtain ⟨hx1, hx2⟩ := HOK.out x (List.mem_of_getElem? e2)
      obtain ⟨y, rfl⟩ : ∃ y : Nat, x = (y : Int) := ⟨x.toNat, by omega⟩
      have hyn : y < n := by omega
      have htk : pl.take (j + 1) = pl.take j ++ [(y : Int)] := by rw [List.take_add_one, e2]; rfl
      obtain ⟨b2, o2, hA2, hb2, hc2⟩ := hrw j _ e2
      subst hA2
      have hcx : wr.cell? ⟨b2, o2 + j, none⟩ = some (.int .i64 (y : Int)) := by simpa using hc2 0 _ rfl
      have hbe := befE_get (ps := ps) (i := i) (nx := pl.take j) hyn
      obtain ⟨xv, hxc, hxf, hgl, hxo, hput⟩ := HRi.out.at hbe
      have hlen := befRow_len (ps := ps) (i := i) (nx := pl.take j) (k := y)
      obtain ⟨hl1, hl2⟩ := befRow_last (ps := ps) (i := i) (nx := pl.take j) (k := y)
      have hsame := befE_same (ps := ps) (n := n) (i := i) (nx := pl.take j) (x := (y : Int))
      have hset := befE_set (ps := ps) (n := n) (i := i) (nx := pl.take j) hyn
      rw [← htk] at hsame hset
      obtain ⟨es, hes⟩ : ∃ es, befRow ps i (pl.take j) y = es := ⟨_, rfl⟩
      rw [hes] at hxo hput hlen hl1 hl2 hset
      obtain ⟨m, hm⟩ : ∃ m, es.length = m := ⟨_, rfl⟩
      rw [hm] at hxo hput hlen
      have HXO := Lib.hid hxo
      have HPUT := Lib.hid hput
      have HL1 := Lib.hid hl1
      have HL2 := Lib.hid hl2
      have HSAME := Lib.hid hsame
      have HSET := Lib.hid hset
      have HM := Lib.hid hm
      have HRW2 := Lib.hid hrw
      obtain ⟨Ax, cx, hAx, -, -⟩ := hxo.shape
      subst hAx
      have hjq : (j : Int) < (q : Int) := by omega
      have hyni : (y : Int) < (n : Int) := by omega
      have hm100 : m ≤ 101 := by omega
      clear hbe htk hl1 hl2 hsame hset hes hm hxo hput hB hrw hc2 e2 hlen
      obtain ⟨hit, hhit⟩ : ∃ hit, (pl.take j).any (fun z => z == (y : Int)) = hit := ⟨_, rfl⟩
      have HHIT := Lib.hid hhit
      clear hhit
      cases hit
      case true =>
        obtain ⟨ls, hls⟩ := HL1.out HHIT.out
        have hm1 : m = ls.length + 1 := by rw [← HM.out, hls]; simp
        obtain ⟨gx, ox, cpx, hvx, -, -, -, hgx, hcell⟩ := HXO.out.form (by omega)
        cases hvx
        have hlast : wr.cell? ⟨gx, ox + (m - 1), none⟩ = some (.int .i64 (i : Int)) := hcell _ _ (by rw [List.getElem?_map, hls, hm1]; simp)
        have hmi : (m : Int) - 1 = ((m - 1 : Nat) : Int) := by omega
        have hmp : ¬ (m : Int) = 0 := by omega
        have hmlt : m - 1 < m := by omega
        have hmlti : ((m - 1 : Nat) : Int) < (m : Int) := by omega
        have HLS := Lib.hid hls
        have HM1 := Lib.hid hm1
        clear hls hm1 hcell
        go_wp2_with (first | rw [hmi])
        go_roundg (gk - 1)
        case measure => have := HJ.out; omega
        case rel =>
          refine ⟨j + 1, by have := HJ.out; omega, by go_num, HBi.out, ?_, HRW2.out⟩
          rw [HSAME.out HHIT.out]
          exact HRi.out
      case false =>
        have hne := HL2.out HHIT.out
        have hnl : n ≤ 100 := hn
        obtain ⟨W5, hW5⟩ : ∃ W5, wr.alloc (.cells #[.int .i64 (i : Int)] 3) = W5 := ⟨_, rfl⟩
        have hW5s : W5.heap.size = wr.heap.size + 1 := by rw [← hW5]; simp
        have hxo5 : OwnS W5 (ge + 1) 3 1 (.slice Ax m cx) m (ivs es) := by rw [← hW5]; exact HXO.out.alloc _
        have h5c : W5.cell? ⟨wr.heap.size, 0, none⟩ = some (.int .i64 (i : Int)) := by rw [← hW5]; exact (Blk.new wr 3 #[.int .i64 (i : Int)]).cell 0
        have hxc5 : W5.cell? ⟨ge, y, none⟩ = some (.slice Ax m cx) := by rw [← hW5, World.cell?_alloc_lt _ _ _ hgl]; exact hxc
        have HXO5 := Lib.hid hxo5
        have hk5 : ∀ k, k < wr.heap.size → W5.heap[k]? = wr.heap[k]? := fun k hk => by rw [← hW5]; exact Below.heap_alloc wr _ k hk
        have HK5 := Lib.hid hk5
        have H5C := Lib.hid h5c
        have HB5 : Hid (Below ge W3 W5) := Lib.hid (by rw [← hW5]; exact HBi.out.alloc (by omega) _)
        have HFZ : Hid (∀ w9 : World, W5.grownBy w9 (Value.slice Ax m cx).ownBlock → w9.frozen? ⟨ge, y, none⟩ = false ∧ ge < w9.heap.size ∧ w9.cell? ⟨ge, y, none⟩ = some (.slice Ax m cx)) := Lib.hid fun w9 hg => by
          have hgx : some ge ≠ (Value.slice Ax m cx).ownBlock := fun e1 => by have := (HXO5.out.lt ge e1.symm).1; omega
          have h1 := hg.block ge (by omega) hgx
          have h2 := HK5.out ge hgl
          refine ⟨?_, Nat.lt_of_lt_of_le (by omega) hg.size, ?_⟩
          · simp only [World.frozen?, h1, h2]
            simpa [World.frozen?] using hxf
          · simp only [World.cell?, h1, h2]
            simpa [World.cell?] using hxc
        have HNE := Lib.hid hne
        clear hxo5 hk5 h5c hne
        have hbr : (m = 0 ∧ (m : Int) = 0) ∨ (¬ (m : Int) = 0 ∧ ∃ lv : Int, lv ≠ (i : Int) ∧ ∃ gx ox cpx, Ax = some ⟨gx, ox, none⟩ ∧ cx = cpx ∧ wr.cell? ⟨gx, ox + (m - 1), none⟩ = some (.int .i64 lv)) := by
          rcases Nat.eq_zero_or_pos m with h0 | h0
          · exact .inl ⟨h0, by omega⟩
          · refine .inr ⟨by omega, es[m - 1]'(by rw [HM.out]; omega), HNE.out _ (List.getElem_mem _), ?_⟩
            obtain ⟨gx, ox, cpx, hvx, -, -, -, hgx, hcell⟩ := HXO.out.form h0
            cases hvx
            exact ⟨gx, ox, cx, rfl, rfl, hcell _ _ (by rw [List.getElem?_map, List.getElem?_eq_getElem (by rw [HM.out]; omega)]; rfl)⟩
        have hW5' := hW5
        rcases hbr with ⟨h0, h0i⟩ | ⟨h0i, lv, hlv, gx, ox, cpx, rfl, rfl, hlast⟩
        · subst h0
          clear hxc5
          go_wp2_with (first | rw [hW5] | (at_builtin; go_must (refine wpList_append_S _ rfl (.tmp 55) (.tmp 57) _ rfl (ge + 1) 3 i0 _ 1 8 Tryz.underlying28 hi0 hz0 hz1 hz2 rfl (.slice Ax 0 cx) 0 (ivs es) rfl HXO5.out ⟨wr.heap.size, 0, none⟩ 1 1 [.int .i64 (i : Int)] rfl rfl (news_one _ _ _ H5C.out) (by simp [Value.oneCell']) (by simp only [maxLen]; omega) (by omega) (by omega) ?_); intro v' w9 hown hgrow hat; obtain ⟨q9, q8, q7⟩ := HFZ.out w9 hgrow; obtain ⟨A9, c9, hA9, -, -⟩ := hown.shape; subst hA9))
          go_roundg (gk - 1)
          case measure => have := HJ.out; omega
          case rel =>
            have hszw := hgrow.size
            have hgx5 : ∀ g, (Value.slice Ax 0 cx).ownBlock = some g → ge + 1 ≤ g := fun g hg => (HXO5.out.lt g hg).1
            refine ⟨j + 1, by have := HJ.out; omega, by go_num, ?_, ?_, ?_⟩
            · exact (Below.grown HB5.out hgrow (by have := HB5.out.size; omega) (fun g hg => by have := hgx5 g hg; omega)).setCell (Nat.le_refl _) _
            · rw [HSET.out HHIT.out]
              refine HPUT.out w9 _ (i : Int) (fun k hk hne => ?_) (by omega) hown ?_ (by omega)
              · rw [hgrow.block k (by omega) hne]
                exact HK5.out k hk
              · rcases hat with h | h
                · exact .inl h
                · exact .inr ⟨_, h, by omega⟩
            · have hb9 : ∀ u : Value, Below w.heap.size wr (w9.setCell ⟨ge, y, none⟩ u) := fun u => (Below.grown (B := w.heap.size) (a := wr) (w := W5) ⟨by rw [← hW5']; rfl, by rw [← hW5']; rfl, by rw [← hW5']; rfl, by omega, fun k hk => HK5.out k (by omega)⟩ hgrow (by omega) (fun g hg => by have := hgx5 g hg; omega)).setCell (by show w.heap.size ≤ ge; omega) _
              exact HRW2.out.below (hb9 _) (Nat.le_refl _)
        · have hm0b : ((m : Int) == 0) = false := by simpa using h0i
          have hlvb : (lv != (i : Int)) = true := by simpa using hlv
          have hmi : (m : Int) - 1 = ((m - 1 : Nat) : Int) := by omega
          have hmlt : m - 1 < m := by omega
          have hmlti : ((m - 1 : Nat) : Int) < (m : Int) := by omega
          have hgxl : gx < wr.heap.size := (HXO.out.lt gx rfl).2
          go_wp2_with (first | rw [hW5] | rw [hmi] | (at_builtin; go_must (refine wpList_append_S _ rfl (.tmp 55) (.tmp 57) _ rfl (ge + 1) 3 i0 _ 1 8 Tryz.underlying28 hi0 hz0 hz1 hz2 rfl (.slice (some ⟨gx, ox, none⟩) m cx) m (ivs es) rfl HXO5.out ⟨wr.heap.size, 0, none⟩ 1 1 [.int .i64 (i : Int)] rfl rfl (news_one _ _ _ H5C.out) (by simp [Value.oneCell']) (by simp only [maxLen]; omega) (by omega) (by omega) ?_); intro v' w9 hown hgrow hat; obtain ⟨q9, q8, q7⟩ := HFZ.out w9 hgrow; obtain ⟨A9, c9, hA9, -, -⟩ := hown.shape; subst hA9))
          go_roundg (gk - 1)
          case measure => have := HJ.out; omega
          case rel =>
            have hszw := hgrow.size
            have hgx5 : ∀ g, (Value.slice (some ⟨gx, ox, none⟩) m cx).ownBlock = some g → ge + 1 ≤ g := fun g hg => (HXO5.out.lt g hg).1
            refine ⟨j + 1, by have := HJ.out; omega, by go_num, ?_, ?_, ?_⟩
            · exact (Below.grown HB5.out hgrow (by have := HB5.out.size; omega) (fun g hg => by have := hgx5 g hg; omega)).setCell (Nat.le_refl _) _
            · rw [HSET.out HHIT.out]
              refine HPUT.out w9 _ (i : Int) (fun k hk hne => ?_) (by omega) hown ?_ (by omega)
              · rw [hgrow.block k (by omega) hne]
                exact HK5.out k hk
              · rcases hat with h | h
                · exact .inl h
                · exact .inr ⟨_, h, by omega⟩
            · have hb9 : ∀ u : Value, Below w.heap.size wr (w9.setCell ⟨ge, y, none⟩ u) := fun u => (Below.grown (B := w.heap.size) (a := wr) (w := W5) ⟨by rw [← hW5']; rfl, by rw [← hW5']; rfl, by rw [← hW5']; rfl, by omega, fun k hk => HK5.out k (by omega)⟩ hgrow (by omega) (fun g hg => by have := hgx5 g hg; omega)).setCell (by show w.heap.size ≤ ge; omega) _
              exact HRW2.out.below (hb9 _) (Nat.le_refl _)
end Go.Proofs.YtlclpcobblojnaaGreatDoor
/- What can be reached: plain; slices taken apart. -/
namespace Go.Proofs.YtlclpcobblojnaaGreatDoor
open Go.RowKit

theorem OwnS.tail {w : World} {base : Nat} {e : TypeId} {g off n cap : Nat} {x : Value} {xs : List Value} (h : OwnS w base e 1 (.slice (some ⟨g, off, none⟩) (n + 1) cap) (n + 1) (x :: xs)) :
    OwnS w base e 1 (if cap = 1 then .slice (some ⟨g, off, none⟩) n (cap - 1) else .slice (some ⟨g, off + 1, none⟩) n (cap - 1)) n xs := by
  have h1 := h.1
  refine ⟨by simpa using h1, ?_⟩
  rcases h.2 with ⟨hv, _⟩ | ⟨g', off', cap', cur, hv, hb, hg, hn, hm, hs, ht⟩
  · cases hv
  · cases hv
    by_cases hc : cap = 1
    · subst hc
      have hn0 : n = 0 := by omega
      subst hn0
      have hx : xs = [] := List.eq_nil_of_length_eq_zero (by simpa using h1)
      subst hx
      rw [if_pos rfl]
      exact .inr ⟨g, off, 0, cur, rfl, hb, hg, Nat.le_refl _, by omega, by omega, by simp⟩
    · rw [if_neg hc]
      refine .inr ⟨g, off + 1, cap - 1, cur, rfl, hb, hg, by omega, by omega, by omega, ?_⟩
      rw [Nat.mul_one] at ht ⊢
      have h2 := congrArg List.tail ht
      rw [List.tail_cons] at h2
      rw [← h2, ← List.drop_one, List.drop_take, List.drop_drop]
      rfl
theorem OwnS.front {w : World} {base : Nat} {e : TypeId} {g off n cap : Nat} {x : Value} {xs : List Value} (h : OwnS w base e 1 (.slice (some ⟨g, off, none⟩) (n + 1) cap) (n + 1) (xs ++ [x])) :
    OwnS w base e 1 (.slice (some ⟨g, off, none⟩) n cap) n xs := by
  have h1 := h.1
  have h1' : xs.length = n := by simpa using h1
  refine ⟨by rw [h1', Nat.mul_one], ?_⟩
  rcases h.2 with ⟨hv, _⟩ | ⟨g', off', cap', cur, hv, hb, hg, hn, hm, hs, ht⟩
  · cases hv
  · cases hv
    refine .inr ⟨g, off, cap, cur, rfl, hb, hg, by omega, hm, hs, ?_⟩
    rw [Nat.mul_one] at ht ⊢
    have h2 := congrArg (List.take n) ht
    rw [List.take_take, Nat.min_eq_left (by omega), List.take_left' h1'] at h2
    exact h2
theorem run_tail (g off n cap : Nat) (w : World) :
    (Instr.slice 28 (.slice (some ⟨g, off, none⟩) (n + 1) cap) (some (.int .i64 1)) none none).run Tryz.prog w =
      .ok (if cap = 1 then .slice (some ⟨g, off, none⟩) n (cap - 1) else .slice (some ⟨g, off + 1, none⟩) n (cap - 1)) w := by
  obtain ⟨i0, hi0, hz0, hz1, hz2⟩ := info_parts int_info
  have := run_slice_from (P := Tryz.prog) w 28 3 i0 Tryz.underlying28 hi0 (some ⟨g, off, none⟩) (n + 1) cap 1 (by omega)
  rw [show ((1 : Nat) : Int) = 1 from rfl] at this
  rw [this]
  by_cases hc : cap = 1
  · simp [hc]
  · simp [hc, hz1, Addr.add]
theorem run_slice_upto {P : Program} (w : World) (t e : TypeId) (i : TypeInfo) (ht : P.underlying t = some (.slice e)) (hi : P.info? e = some i) (a : Option Addr) (len cap k : Nat) (hk : k ≤ cap) :
    (Instr.slice t (.slice a len cap) none (some (.int .i64 (k : Int))) none).run P w = .ok (.slice a k cap) w := by
  have e : Option.map (fun x : Addr => x.add 0) a = a := by cases a <;> simp [Addr.add]
  simp [Instr.slice, run_underlying ht, Instr.sliceBounds, Instr.sliceBound, asIntOf, sizeOf, typeInfo, hi]
  rw [if_pos hk, e, ite_self]
theorem run_front (A : Option Addr) (n cap : Nat) (w : World) (hc : n + 1 ≤ cap) :
    (Instr.slice 28 (.slice A (n + 1) cap) none (some (.int .i64 (n : Int))) none).run Tryz.prog w = .ok (.slice A n cap) w := by
  obtain ⟨i0, hi0, hz0, hz1, hz2⟩ := info_parts int_info
  exact run_slice_upto w 28 3 i0 Tryz.underlying28 hi0 A (n + 1) cap n (by omega)

/-- What can be reached from the entry. -/
inductive Rch (ps : List Pt) : Nat → Prop
  | zero : Rch ps 0
  | step {i k : Nat} {p : Pt} (h : Rch ps i) (hp : ps[i]? = some p) (hk : (k : Int) ∈ p.next) : Rch ps k
open Classical in
noncomputable def reachM (ps : List Pt) : List Bool := (List.range ps.length).map fun k => decide (Rch ps k)
noncomputable def reachV (ps : List Pt) : List Bool := if validB ps then reachM ps else []
theorem reachM_len (ps : List Pt) : (reachM ps).length = ps.length := by simp [reachM]

def fal : List Bool → Nat
  | [] => 0
  | b :: l => (if b then 0 else 1) + fal l
theorem fal_set : ∀ (l : List Bool) (i : Nat), l[i]? = some false → fal (l.set i true) + 1 = fal l
  | [], i, h => by simp at h
  | b :: l, 0, h => by
    simp at h
    subst h
    simp [fal]
    omega
  | b :: l, i + 1, h => by
    have := fal_set l i (by simpa using h)
    simp only [List.set_cons_succ, fal]
    omega
theorem fal_rep (n : Nat) : fal (List.replicate n false) = n := by
  induction n with
  | zero => rfl
  | succ n ih => simp only [List.replicate_succ, fal, ih]; simp; omega

/-- The successors of valid points. -/
def NextIn (ps : List Pt) : Prop := ∀ p ∈ ps, ∀ x ∈ p.next, 1 ≤ x ∧ x < (ps.length : Int)
theorem valid_next {ps : List Pt} (h : validB ps = true) : NextIn ps ∧ 2 ≤ ps.length := by
  unfold validB at h
  simp only [Bool.and_eq_true, decide_eq_true_eq] at h
  refine ⟨fun p hp x hx => ?_, h.1⟩
  have h1 := List.all_eq_true.1 h.2.2.2 p hp
  have h2 := List.all_eq_true.1 h1 x hx
  simpa using h2

structure RS (ps : List Pt) (out : List Bool) (todo : List Nat) : Prop where
  len : out.length = ps.length
  zero : out[0]? = some true
  sound : ∀ k, out[k]? = some true → Rch ps k
  wait : ∀ x ∈ todo, out[x]? = some true
  closed : ∀ k, out[k]? = some true → k ∈ todo ∨ ∀ p : Pt, ps[k]? = some p → ∀ s ∈ p.next, out[s.toNat]? = some true
structure RI (ps : List Pt) (out : List Bool) (todo : List Nat) (i : Nat) (nx : List Int) : Prop where
  len : out.length = ps.length
  zero : out[0]? = some true
  sound : ∀ k, out[k]? = some true → Rch ps k
  wait : ∀ x ∈ todo, out[x]? = some true
  ati : out[i]? = some true
  part : ∀ s ∈ nx, out[s.toNat]? = some true
  closed : ∀ k, out[k]? = some true → k ∈ todo ∨ k = i ∨ ∀ p : Pt, ps[k]? = some p → ∀ s ∈ p.next, out[s.toNat]? = some true

theorem RS.start {ps : List Pt} {n : Nat} (hl : ps.length = n) (hn : 0 < n) : RS ps ((List.replicate n false).set 0 true) [0] := by
  have hk : ∀ k, ((List.replicate n false).set 0 true)[k]? = some true → k = 0 := fun k hk => by
    rw [List.getElem?_set] at hk
    by_cases e : 0 = k
    · exact e.symm
    · rw [if_neg e, List.getElem?_replicate] at hk
      split at hk <;> cases hk
  refine ⟨by simp [hl], by simp [hn], fun k h => by rw [hk k h]; exact .zero, fun x hx => ?_, fun k h => .inl (by rw [hk k h]; simp)⟩
  rw [List.mem_singleton.1 hx]
  simp [hn]
theorem RS.take {ps : List Pt} {out : List Bool} {todo rest : List Nat} {i : Nat} (h : RS ps out todo) (hm : ∀ x, x ∈ todo ↔ x = i ∨ x ∈ rest) : RI ps out rest i [] :=
  ⟨h.len, h.zero, h.sound, fun x hx => h.wait x ((hm x).2 (.inr hx)), h.wait i ((hm i).2 (.inl rfl)), fun s hs => (by cases hs), fun k hk => by
    rcases h.closed k hk with h1 | h1
    · rcases (hm k).1 h1 with h2 | h2
      · exact .inr (.inl h2)
      · exact .inl h2
    · exact .inr (.inr h1)⟩
theorem RI.done {ps : List Pt} {out : List Bool} {todo : List Nat} {i : Nat} {p : Pt} (h : RI ps out todo i p.next) (hp : ps[i]? = some p) : RS ps out todo :=
  ⟨h.len, h.zero, h.sound, h.wait, fun k hk => by
    rcases h.closed k hk with h1 | rfl | h1
    · exact .inl h1
    · exact .inr fun p' hp' s hs => by rw [hp] at hp'; cases hp'; exact h.part s hs
    · exact .inr h1⟩
theorem RI.old {ps : List Pt} {out : List Bool} {todo : List Nat} {i y : Nat} {nx : List Int} (h : RI ps out todo i nx) (hy : out[y]? = some true) : RI ps out todo i (nx ++ [(y : Int)]) :=
  ⟨h.len, h.zero, h.sound, h.wait, h.ati, fun s hs => by
    rcases List.mem_append.1 hs with h1 | h1
    · exact h.part s h1
    · rw [List.mem_singleton.1 h1]; simpa using hy, h.closed⟩
theorem RI.new {ps : List Pt} {out : List Bool} {todo : List Nat} {i y : Nat} {nx : List Int} {p : Pt} (h : RI ps out todo i nx) (hp : ps[i]? = some p) (hm : (y : Int) ∈ p.next) (hy : out[y]? = some false) : RI ps (out.set y true) (todo ++ [y]) i (nx ++ [(y : Int)]) := by
  have hyl : y < out.length := (List.getElem?_eq_some_iff.1 hy).1
  have up : ∀ k, out[k]? = some true → (out.set y true)[k]? = some true := fun k hk => by
    rw [List.getElem?_set]
    by_cases e : y = k
    · rw [if_pos e, if_pos hyl]
    · rw [if_neg e]; exact hk
  have self : (out.set y true)[y]? = some true := by rw [List.getElem?_set, if_pos rfl, if_pos hyl]
  have down : ∀ k, (out.set y true)[k]? = some true → k = y ∨ out[k]? = some true := fun k hk => by
    rw [List.getElem?_set] at hk
    by_cases e : y = k
    · exact .inl e.symm
    · rw [if_neg e] at hk; exact .inr hk
  refine ⟨by rw [List.length_set]; exact h.len, up 0 h.zero, fun k hk => ?_, fun x hx => ?_, up i h.ati, fun s hs => ?_, fun k hk => ?_⟩
  · rcases down k hk with rfl | h1
    · exact .step (h.sound i h.ati) hp hm
    · exact h.sound k h1
  · rcases List.mem_append.1 hx with h1 | h1
    · exact up x (h.wait x h1)
    · rw [List.mem_singleton.1 h1]; exact self
  · rcases List.mem_append.1 hs with h1 | h1
    · exact up _ (h.part s h1)
    · rw [List.mem_singleton.1 h1]; simpa using self
  · rcases down k hk with rfl | h1
    · exact .inl (List.mem_append_right _ (List.mem_singleton.2 rfl))
    · rcases h.closed k h1 with h2 | h2 | h2
      · exact .inl (List.mem_append_left _ h2)
      · exact .inr (.inl h2)
      · exact .inr (.inr fun p hp s hs => up _ (h2 p hp s hs))
theorem RS.done {ps : List Pt} {out : List Bool} (h : RS ps out []) (hn : NextIn ps) : out = reachM ps := by
  have hall : ∀ k, Rch ps k → out[k]? = some true := fun k hk => by
    induction hk with
    | zero => exact h.zero
    | step h1 hp hk ih =>
      rcases h.closed _ ih with h2 | h2
      · cases h2
      · have := h2 _ hp _ hk
        simpa using this
  apply List.ext_getElem?
  intro k
  by_cases hk : k < ps.length
  · have hko : k < out.length := by rw [h.len]; exact hk
    have e1 : out[k]? = some out[k] := List.getElem?_eq_getElem hko
    have e2 : (reachM ps)[k]? = some (@decide (Rch ps k) (Classical.propDecidable _)) := by
      unfold reachM
      rw [List.getElem?_map, List.getElem?_range hk]
      rfl
    rw [e2]
    by_cases hr : Rch ps k
    · rw [hall k hr, @decide_eq_true _ (Classical.propDecidable _) hr]
    · rw [@decide_eq_false _ (Classical.propDecidable _) hr, e1]
      cases hb : out[k] with
      | false => rfl
      | true => exact absurd (h.sound k (by rw [e1, hb])) hr
  · rw [List.getElem?_eq_none (by rw [h.len]; omega), List.getElem?_eq_none (by rw [reachM_len]; omega)]
end Go.Proofs.YtlclpcobblojnaaGreatDoor
/- flow.Reachable, walked. -/
namespace Go.Proofs.YtlclpcobblojnaaGreatDoor
open Go.RowKit

/-- What Reachable returns, both. -/
def ReachRes (ps : List Pt) (base : Nat) (e : Ending) (w' : World) : Prop :=
  ∃ A c, e = .returned (.slice A (reachV ps).length c) ∧ (reachV ps).length ≤ c ∧ c ≤ maxLen ∧ RowAt 1 boolCells w' w'.heap.size A (reachV ps) ∧ base ≤ w'.heap.size

set_option maxHeartbeats 8000000 in
set_option maxRecDepth 10000 in
theorem reachable_any (ps : List Pt) (A : Option Addr) (n c : Nat) (w : World) (hf : FlowAt w w.heap.size A ps) (hl : ps.length = n) (hn : n ≤ 100) (h8 : ∀ p ∈ ps, p.next.length ≤ 8) :
    Calls Tryz.prog 14 #[.agg #[.slice A n c]] w fun e w' => (∃ A c, e = .returned (.slice A (reachV ps).length c) ∧ (reachV ps).length ≤ c ∧ c ≤ maxLen ∧ RowAt 1 boolCells w' w'.heap.size A (reachV ps)) ∧ Below w.heap.size w w' := by
  obtain ⟨i0, hi0, hz0, hz1, hz2⟩ := info_parts int_info
  have HMK := Lib.hid (fun w' : World => run_make_bools n (by omega) w')
  obtain ⟨W, hW⟩ : ∃ W, w.alloc (.cells #[.slice A n c] 24) = W := ⟨_, rfl⟩
  have hb : Below w.heap.size w W := by rw [← hW]; exact below_alloc _ _
  have hx : Blk W w.heap.size 24 #[.slice A n c] := by rw [← hW]; exact Blk.new w _ _
  have hfW := hf.below hb (Nat.le_refl _)
  have HV := Lib.hid (valid_any ps A n c W (hfW.mono hb.size) hl hn h8)
  have HB := Lib.hid hb
  have HF := Lib.hid hfW
  have HX := Lib.hid hx
  have HL := Lib.hid hl
  have H8 := Lib.hid h8
  have x0 := hx.cell 0
  have lx := hx.lt
  clear hf hb hx hl h8 hfW
  go_enter Tryz.func14, Tryz.ntmps14
  go_wp2_with (rw [hW])
  refine HV.out.mono ?_
  rintro e w2 ⟨rfl, hb2⟩
  have HB2 := Lib.hid hb2
  have hx2 := HX.out.below hb2 lx
  have x2 := hx2.cell 0
  have l2 := hx2.lt
  clear hW x0 hb2 hx2 HV
  obtain ⟨V, hV⟩ : ∃ V, validB ps = V := ⟨_, rfl⟩
  rw [hV]
  have HVB := Lib.hid hV
  clear hV
  cases V
  case false =>
    have hres : reachV ps = [] := by unfold reachV; rw [HVB.out]; rfl
    have HRES := Lib.hid hres
    clear hres
    go_wp2_with fail
    go_ret
    rw [HRES.out]
    exact ⟨⟨_, _, rfl, Nat.le_refl _, by simp [maxLen], fun k l h => by simp at h⟩, HB.out.trans (HB2.out.mono HB.out.size)⟩
  have hres : reachV ps = reachM ps := by unfold reachV; rw [HVB.out]; rfl
  have HRES := Lib.hid hres
  obtain ⟨hnx, hn2⟩ := valid_next HVB.out
  have HNX := Lib.hid hnx
  have h0n : (0 : Nat) < n := by rw [← HL.out]; omega
  have h0ni : (0 : Int) < (n : Int) := by omega
  clear hres hnx hn2
  have hmk := HMK.out w2
  obtain ⟨W3, hW3⟩ : ∃ W3, w2.alloc (.cells ((List.replicate n false).map Value.bool).toArray 4) = W3 := ⟨_, rfl⟩
  rw [hW3] at hmk
  have hb3 : Below w2.heap.size w2 W3 := by rw [← hW3]; exact below_alloc _ _
  have hr3 : BoolsBlk W3 w2.heap.size (List.replicate n false) := by rw [← hW3]; exact BoolsBlk.new w2 _
  have hs3 : W3.heap.size = w2.heap.size + 1 := by rw [← hW3]; simp
  obtain ⟨ge, hge⟩ : ∃ ge, w2.heap.size = ge := ⟨_, rfl⟩
  rw [hge] at hmk hr3 hs3 hb3 l2
  have hgl : ge < W3.heap.size := by omega
  have hx3 := (HX.out.below HB2.out lx).below hb3 l2
  have HF3 := Lib.hid ((HF.out.below HB2.out HB.out.size).below hb3 (by have := HB.out.size; have := HB2.out.size; omega))
  have HWW : Hid (Below w.heap.size w W3) := Lib.hid (HB.out.trans ((HB2.out.mono HB.out.size).trans (hb3.mono (by have := HB.out.size; have := HB2.out.size; omega))))
  have hgew : w.heap.size < ge := by omega
  have hc30 := hr3.cell (i := 0) (x := false) (by simp [h0n])
  have hf30 := hr3.frozen 0
  -- the first mark, the list of what is to be done
  obtain ⟨W4, hW4⟩ : ∃ W4, (W3.setCell ⟨ge, 0, none⟩ (.bool true)).alloc (.cells #[.int .i64 0] 3) = W4 := ⟨_, rfl⟩
  have hb4 : Below ge W3 W4 := by rw [← hW4]; exact ((Below.refl ge W3).setCell (Nat.le_refl _) _).alloc (by simp; omega) _
  have hr4 : BoolsBlk W4 ge ((List.replicate n false).set 0 true) := by rw [← hW4]; exact (hr3.set 0 true).alloc _
  have ho4 : OwnS W4 (ge + 1) 3 1 (.slice (some ⟨ge + 1, 0, none⟩) 1 1) 1 (ivs (([0] : List Nat).map fun x : Nat => (x : Int))) := by
    rw [← hW4]
    have := OwnS.block (w := (W3.setCell ⟨ge, 0, none⟩ (.bool true)).alloc (.cells #[.int .i64 0] 3)) (base := ge + 1) (size := 1) (g := ge + 1) (n := 1) (cur := #[.int .i64 0]) (e := 3) (Nat.le_refl _) (by have := heap_alloc_new (W3.setCell ⟨ge, 0, none⟩ (.bool true)) (.cells #[.int .i64 0] 3); simpa [World.setCell, hs3] using this) (by simp [maxLen]) rfl
    simpa using this
  have hx4 := hx3.below hb4 (by omega)
  have HR4 := Lib.hid hr4
  have HO4 := Lib.hid ho4
  have HB4 := Lib.hid hb4
  have HX4 := Lib.hid hx4
  have x4 := hx4.cell 0
  have hs4 : ge + 1 < W4.heap.size := by rw [← hW4]; simp; omega
  have HST := Lib.hid (RS.start HL.out h0n)
  clear hb3 hr3 hx3 hW3 HMK hge hb4 hr4 ho4 hx4
  go_wp2_with (first | rw [hW4])
  clear hmk x2 hW4 hc30 hf30 x4
  go_loopg [4] (2 * fal ((List.replicate n false).set 0 true) + 1) (fun gk s wr => ∃ out todo, 2 * fal out + List.length todo = gk ∧ gk ≤ 200 ∧ Hid (RS ps out todo) ∧ Hid (BoolsBlk wr ge out) ∧ Below ge W4 wr ∧ Hid (OwnS wr (ge + 1) 3 1 s todo.length (ivs (todo.map fun x : Nat => (x : Int)))))
  case atStart => exact ⟨_, [0], rfl, by have := fal_set (List.replicate n false) 0 (by simp [h0n]); rw [fal_rep] at this; omega, Lib.hid HST.out, Lib.hid HR4.out, Below.refl _ _, Lib.hid HO4.out⟩
  case round =>
    obtain ⟨out, todo, hk, hk2, HS, HI, hB, HT⟩ := hrel
    have HK := Lib.hid hk
    have hxr := HX4.out.below hB (by omega)
    have xr := hxr.cell 0
    have lr := hxr.lt
    have HBr := Lib.hid hB
    have HB4r := Lib.hid (HB4.out.trans hB)
    have hszr : ge + 1 < wr.heap.size := Nat.lt_of_lt_of_le hs4 hB.size
    clear hk hxr
    rcases List.eq_nil_or_concat todo with rfl | ⟨rest, i, rfl⟩
    · obtain ⟨At, ct, rfl, -, -⟩ := HT.out.shape
      have hout : out = reachM ps := HS.out.done HNX.out
      have HOUT := Lib.hid hout
      clear hout hB
      simp only [List.length_nil]
      go_wp2_with fail
      go_ret
      rw [HRES.out]
      refine ⟨⟨some ⟨ge, 0, none⟩, n, by rw [reachM_len, HL.out]; rfl, by rw [reachM_len, HL.out]; exact Nat.le_refl _, by simp only [maxLen]; omega, ?_⟩, HWW.out.trans (HB4r.out.mono (by omega))⟩
      rw [← HOUT.out]
      exact HI.out.rowAt
    rw [List.concat_eq_append] at *
    obtain ⟨m, hm⟩ : ∃ m, rest.length = m := ⟨_, rfl⟩
    have hT := HT.out
    rw [List.map_append, List.length_append, hm] at hT
    simp only [List.length_singleton, List.map_cons, List.map_nil] at hT
    have hT' : OwnS wr (ge + 1) 3 1 u4 (m + 1) (ivs (rest.map fun x : Nat => (x : Int)) ++ [.int .i64 (i : Int)]) := by simpa [ivs] using hT
    obtain ⟨g, off, cap, hv, hmc, hcm, hbg, hgl2, hcell⟩ := hT'.form (by omega)
    subst hv
    have hpop := hT'.front
    have hli : wr.cell? ⟨g, off + m, none⟩ = some (.int .i64 (i : Int)) := hcell _ _ (by rw [List.getElem?_append_right (by simp [hm])]; simp [hm])
    have hst := HS.out.take (rest := rest) (i := i) (fun x => by rw [List.mem_append, List.mem_singleton]; exact Or.comm)
    have hiout := HS.out.wait i (by simp)
    have hin : i < n := by
      have := (List.getElem?_eq_some_iff.1 hiout).1
      rw [HS.out.len, HL.out] at this
      exact this
    have e1 : ps[i]? = some (ps[i]'(by rw [HL.out]; exact hin)) := List.getElem?_eq_getElem _
    generalize ps[i]'(by rw [HL.out]; exact hin) = p at e1
    obtain ⟨pk, pn, pl⟩ := p
    obtain ⟨b1, o1, hA1, hb1, h1, h2, A2, c2, h3, h4, h5, h6⟩ := (HF3.out.below HB4r.out (by omega)) i _ e1
    subst hA1
    replace h3 : wr.cell? ⟨b1, o1 + i * 3 + 2, none⟩ = some (.slice A2 pl.length c2) := h3
    replace h6 : RowAt 1 intCells wr w.heap.size A2 pl := h6
    obtain ⟨q, hq⟩ : ∃ q, pl.length = q := ⟨_, rfl⟩
    have hq8 : q ≤ 8 := by rw [← hq]; exact H8.out _ (List.mem_of_getElem? e1)
    rw [hq] at h3
    have hnx : ∀ x ∈ pl, 1 ≤ x ∧ x < (n : Int) := fun x hx => by
      have := HNX.out _ (List.mem_of_getElem? e1) x hx
      rwa [HL.out] at this
    have HPOP := Lib.hid hpop
    have HQ := Lib.hid hq
    have HNXI := Lib.hid hnx
    have HE1 := Lib.hid e1
    have HSTI := Lib.hid hst
    have HM := Lib.hid hm
    have HRW := Lib.hid h6
    have hfr := run_front (some ⟨g, off, none⟩) m cap wr (by omega)
    have hmi : ((m + 1 : Nat) : Int) - 1 = (m : Int) := by omega
    have hmi2 : (m : Int) + 1 - 1 = (m : Int) := by omega
    have hmlt : m < m + 1 := by omega
    have hmlti : (m : Int) < (m : Int) + 1 := by omega
    have hmpos : (0 : Int) < ((m + 1 : Nat) : Int) := by omega
    have hmpos2 : (0 : Int) < (m : Int) + 1 := by omega
    have hini : (i : Int) < (n : Int) := by omega
    have hm101 : m ≤ 200 := by have := HK.out; simp [hm] at this; omega
    clear e1 hq hnx h1 h2 h4 h5 h6 hT hT' hpop hcell hst hiout hm hB HT
    go_wp2_with (first | rw [hmi] | rw [hmi2])
    clear hli hfr xr
    obtain ⟨wo, rfl⟩ : ∃ wo : World, wo = wr := ⟨_, rfl⟩
    obtain ⟨go, rfl⟩ : ∃ go : Nat, go = gk := ⟨_, rfl⟩
    go_loopg [4, 39] q (fun gk s4 s39 wr => ∃ (j : Nat) (out' : List Bool) (todo' : List Nat), j + gk = q ∧ s39 = .int .i64 j ∧ Hid (RI ps out' todo' i (pl.take j)) ∧ Hid (BoolsBlk wr ge out') ∧ Below ge W4 wr ∧ Hid (OwnS wr (ge + 1) 3 1 s4 todo'.length (ivs (todo'.map fun x : Nat => (x : Int)))) ∧ RowAt 1 intCells wr w.heap.size A2 pl ∧ Hid (2 * fal out' + todo'.length + 1 ≤ go))
    case atStart => exact ⟨0, out, rest, by omega, rfl, HSTI, HI, HBr.out, Lib.hid (by rw [HM.out]; exact HPOP.out), HRW.out, Lib.hid (by have := HK.out; simp at this; omega)⟩
    case round =>
      obtain ⟨j, out', todo', hj, rfl, HSj, HIj, hB, HTj, hrw, HMj⟩ := hrel
      have hj' : j ≤ q := by omega
      have HJ := Lib.hid hj
      have HBj := Lib.hid hB
      clear hj
      by_cases hltj : j < q
      case neg =>
        have hall : pl.take j = pl := List.take_of_length_le (by rw [HQ.out]; omega)
        have hs := HSj.out
        rw [hall] at hs
        have HS2 := Lib.hid (RI.done (p := ⟨pk, pn, pl⟩) hs HE1.out)
        clear hall hs hB hrw
        go_wp2_with fail
        go_roundg (2 * fal out' + todo'.length)
        case measure => have := HMj.out; omega
        case rel => exact ⟨out', todo', rfl, by have := HMj.out; omega, HS2, HIj, HBj.out, HTj⟩
      have e2 : pl[j]? = some (pl[j]'(by rw [HQ.out]; exact hltj)) := List.getElem?_eq_getElem _
      generalize pl[j]'(by rw [HQ.out]; exact hltj) = x at e2
      obtain ⟨hx1, hx2⟩ := HNXI.out x (List.mem_of_getElem? e2)
      obtain ⟨y, rfl⟩ : ∃ y : Nat, x = (y : Int) := ⟨x.toNat, by omega⟩
      have hyn : y < n := by omega
      have htk : pl.take (j + 1) = pl.take j ++ [(y : Int)] := by rw [List.take_add_one, e2]; rfl
      obtain ⟨b2, o2, hA2, hb2, hc2⟩ := hrw j _ e2
      subst hA2
      have hcx : wr.cell? ⟨b2, o2 + j, none⟩ = some (.int .i64 (y : Int)) := by simpa using hc2 0 _ rfl
      have hyl : y < out'.length := by rw [HSj.out.len, HL.out]; exact hyn
      have e3 : out'[y]? = some out'[y] := List.getElem?_eq_getElem hyl
      generalize out'[y] = bv at e3
      have hcy := HIj.out.cell e3
      have hfy := HIj.out.frozen y
      have hgl3 := HIj.out.lt
      have HTK := Lib.hid htk
      have HE3 := Lib.hid e3
      have HRW2 := Lib.hid hrw
      have HMEM := Lib.hid (List.mem_of_getElem? e2)
      have hjq : (j : Int) < (q : Int) := by omega
      have hyni : (y : Int) < (n : Int) := by omega
      clear htk hB hrw hc2 e2 e3
      cases bv
      case true =>
        go_wp2_with fail
        go_roundg (gk - 1)
        case measure => have := HJ.out; omega
        case rel =>
          refine ⟨j + 1, out', todo', by have := HJ.out; omega, by go_num, Lib.hid ?_, HIj, HBj.out, HTj, HRW2.out, HMj⟩
          rw [HTK.out]
          exact HSj.out.old HE3.out
      obtain ⟨m2, hm2⟩ : ∃ m2, todo'.length = m2 := ⟨_, rfl⟩
      have hT := HTj.out
      rw [hm2] at hT
      have hp : u4.ownBlock ≠ some ge := fun e => by have := (hT.lt _ e).1; omega
      have hT5 : OwnS (wr.setCell ⟨ge, y, none⟩ (.bool true)) (ge + 1) 3 1 u4 m2 (ivs (todo'.map fun x : Nat => (x : Int))) := hT.setCell hp _
      have hsz2 : ge + 1 ≤ wr.heap.size := by have := HBj.out.size; omega
      have hm2b : m2 ≤ 200 := by have := HMj.out; have := hk2; omega
      have hrow : (wr.setCell ⟨ge, y, none⟩ (.bool true)).cell? ⟨b2, o2 + j, none⟩ = some (.int .i64 (y : Int)) := by
        rw [← hcx]
        exact (Below.setCell (Below.refl ge wr) (p := ⟨ge, y, none⟩) (Nat.le_refl _) _).cell (p := ⟨b2, o2 + j, none⟩) (by show b2 < ge; omega)
      have HT5 := Lib.hid hT5
      have HM2 := Lib.hid hm2
      clear hT hT5 hm2 hrow
      go_wp2_with (at_builtin; go_must (refine wpList_append_S _ rfl (.tmp 51) (.tmp 53) _ rfl (ge + 1) 3 i0 _ 1 8 Tryz.underlying28 hi0 hz0 hz1 hz2 rfl u4 m2 (ivs (todo'.map fun x : Nat => (x : Int))) rfl (by have h9 := HT5.out; (repeat (first | assumption | refine OwnS.drew ?_ | refine OwnS.drewN ?_ _ | refine OwnS.alloc ?_ _ | refine OwnS.setCell ?_ (by assumption) _))) ⟨wr.heap.size, 0, none⟩ 1 1 [.int .i64 (y : Int)] rfl rfl (news_one _ _ _ (by go_simp)) (by simp [Value.oneCell']) (by simp only [maxLen]; omega) (by omega) (by simp; omega) ?_); intro v' w9 hown hgrow hat)
      go_roundg (gk - 1)
      case measure => have := HJ.out; omega
      case rel =>
        have hgx : ∀ g, u4.ownBlock = some g → ge + 1 ≤ g := fun g hg => (HT5.out.lt g hg).1
        have hstep : ∀ B, B ≤ ge → Below B wr w9 := fun B hB => Below.grown ((Below.setCell (Below.refl B wr) (p := ⟨ge, y, none⟩) hB _).alloc (by simp; omega) _) hgrow (by simp; omega) (fun g hg => by have := hgx g hg; omega)
        refine ⟨j + 1, out'.set y true, todo' ++ [y], by have := HJ.out; omega, by go_num, Lib.hid ?_, Lib.hid ?_, ?_, Lib.hid ?_, ?_, Lib.hid ?_⟩
        · rw [HTK.out]
          exact HSj.out.new HE1.out HMEM.out HE3.out
        · exact ((HIj.out.set y true).alloc _).grown hgrow (fun e => hp e.symm)
        · exact HBj.out.trans (hstep ge (Nat.le_refl _))
        · rw [List.length_append, HM2.out, List.map_append]
          simpa [ivs] using hown
        · exact HRW2.out.below (hstep w.heap.size (by omega)) (Nat.le_refl _)
        · have h1 := fal_set _ _ HE3.out
          have h2 := HMj.out
          rw [List.length_append, List.length_singleton]
          omega
end Go.Proofs.YtlclpcobblojnaaGreatDoor
/- The reference's Reach and Reachable, walked. -/
namespace Go.Proofs.YtlclpcobblojnaaGreatDoor
open Go.RowKit

set_option maxHeartbeats 8000000 in
set_option maxRecDepth 10000 in
theorem reachR_any (ps : List Pt) (A : Option Addr) (n c : Nat) (w : World) (hf : FlowAt w w.heap.size A ps) (hl : ps.length = n) (hn : n ≤ 100) (h8 : ∀ p ∈ ps, p.next.length ≤ 8) (hval : validB ps = true) :
    Calls Tryz.prog 24 #[.agg #[.slice A n c], .int .i64 0, .int .i64 (-1)] w fun e w' => (∃ A c, e = .returned (.slice A (reachM ps).length c) ∧ (reachM ps).length ≤ c ∧ c ≤ maxLen ∧ RowAt 1 boolCells w' w'.heap.size A (reachM ps)) ∧ Below w.heap.size w w' := by
  obtain ⟨i0, hi0, hz0, hz1, hz2⟩ := info_parts int_info
  have HMK := Lib.hid (fun w' : World => run_make_bools n (by omega) w')
  obtain ⟨W, hW⟩ : ∃ W, w.alloc (.cells #[.slice A n c] 24) = W := ⟨_, rfl⟩
  have hb : Below w.heap.size w W := by rw [← hW]; exact below_alloc _ _
  have hx : Blk W w.heap.size 24 #[.slice A n c] := by rw [← hW]; exact Blk.new w _ _
  have hfW := hf.below hb (Nat.le_refl _)
  have HB := Lib.hid hb
  have HF := Lib.hid hfW
  have HX := Lib.hid hx
  have HL := Lib.hid hl
  have H8 := Lib.hid h8
  have x0 := hx.cell 0
  have lx := hx.lt
  clear hf hb hx hl h8 hfW
  have HVB := Lib.hid hval
  obtain ⟨w2, hw2⟩ : ∃ w2, W = w2 := ⟨_, rfl⟩
  have HB2 : Hid (Below W.heap.size W w2) := Lib.hid (by rw [← hw2]; exact Below.refl _ _)
  have hx2 := HX.out.below HB2.out lx
  have x2 := hx2.cell 0
  have l2 := hx2.lt
  obtain ⟨hnx, hn2⟩ := valid_next HVB.out
  have HNX := Lib.hid hnx
  have h0n : (0 : Nat) < n := by rw [← HL.out]; omega
  have h0ni : (0 : Int) < (n : Int) := by omega
  clear hnx hn2 hx2 x0
  have hmk := HMK.out w2
  obtain ⟨W3, hW3⟩ : ∃ W3, w2.alloc (.cells ((List.replicate n false).map Value.bool).toArray 4) = W3 := ⟨_, rfl⟩
  rw [hW3] at hmk
  have hb3 : Below w2.heap.size w2 W3 := by rw [← hW3]; exact below_alloc _ _
  have hr3 : BoolsBlk W3 w2.heap.size (List.replicate n false) := by rw [← hW3]; exact BoolsBlk.new w2 _
  have hs3 : W3.heap.size = w2.heap.size + 1 := by rw [← hW3]; simp
  obtain ⟨ge, hge⟩ : ∃ ge, w2.heap.size = ge := ⟨_, rfl⟩
  rw [hge] at hmk hr3 hs3 hb3 l2
  have hgl : ge < W3.heap.size := by omega
  have hx3 := (HX.out.below HB2.out lx).below hb3 l2
  have HF3 := Lib.hid ((HF.out.below HB2.out HB.out.size).below hb3 (by have := HB.out.size; have := HB2.out.size; omega))
  have HWW : Hid (Below w.heap.size w W3) := Lib.hid (HB.out.trans ((HB2.out.mono HB.out.size).trans (hb3.mono (by have := HB.out.size; have := HB2.out.size; omega))))
  have hgew : w.heap.size < ge := by omega
  have hc30 := hr3.cell (i := 0) (x := false) (by simp [h0n])
  have hf30 := hr3.frozen 0
  -- the first mark, the list of what is to be done
  obtain ⟨W4, hW4⟩ : ∃ W4, (W3.setCell ⟨ge, 0, none⟩ (.bool true)).alloc (.cells #[.int .i64 0] 3) = W4 := ⟨_, rfl⟩
  have hb4 : Below ge W3 W4 := by rw [← hW4]; exact ((Below.refl ge W3).setCell (Nat.le_refl _) _).alloc (by simp; omega) _
  have hr4 : BoolsBlk W4 ge ((List.replicate n false).set 0 true) := by rw [← hW4]; exact (hr3.set 0 true).alloc _
  have ho4 : OwnS W4 (ge + 1) 3 1 (.slice (some ⟨ge + 1, 0, none⟩) 1 1) 1 (ivs (([0] : List Nat).map fun x : Nat => (x : Int))) := by
    rw [← hW4]
    have := OwnS.block (w := (W3.setCell ⟨ge, 0, none⟩ (.bool true)).alloc (.cells #[.int .i64 0] 3)) (base := ge + 1) (size := 1) (g := ge + 1) (n := 1) (cur := #[.int .i64 0]) (e := 3) (Nat.le_refl _) (by have := heap_alloc_new (W3.setCell ⟨ge, 0, none⟩ (.bool true)) (.cells #[.int .i64 0] 3); simpa [World.setCell, hs3] using this) (by simp [maxLen]) rfl
    simpa using this
  have hx4 := hx3.below hb4 (by omega)
  have HR4 := Lib.hid hr4
  have HO4 := Lib.hid ho4
  have HB4 := Lib.hid hb4
  have HX4 := Lib.hid hx4
  have x4 := hx4.cell 0
  have hs4 : ge + 1 < W4.heap.size := by rw [← hW4]; simp; omega
  have HST := Lib.hid (RS.start HL.out h0n)
  clear hb3 hr3 hx3 hW3 HMK hge hb4 hr4 ho4 hx4 hval
  go_enter Tryz.func24, Tryz.ntmps24
  go_wp2_with (first | rw [hW, hw2] | rw [hW4])
  clear hmk x2 hW4 hc30 hf30 x4 hW hw2
  go_loopg [8] (2 * fal ((List.replicate n false).set 0 true) + 1) (fun gk s wr => ∃ out todo, 2 * fal out + List.length todo = gk ∧ gk ≤ 200 ∧ Hid (RS ps out todo) ∧ Hid (BoolsBlk wr ge out) ∧ Below ge W4 wr ∧ Hid (OwnS wr (ge + 1) 3 1 s todo.length (ivs (todo.map fun x : Nat => (x : Int)))))
  case atStart => exact ⟨_, [0], rfl, by have := fal_set (List.replicate n false) 0 (by simp [h0n]); rw [fal_rep] at this; omega, Lib.hid HST.out, Lib.hid HR4.out, Below.refl _ _, Lib.hid HO4.out⟩
  case round =>
    obtain ⟨out, todo, hk, hk2, HS, HI, hB, HT⟩ := hrel
    have HK := Lib.hid hk
    have hxr := HX4.out.below hB (by omega)
    have xr := hxr.cell 0
    have lr := hxr.lt
    have HBr := Lib.hid hB
    have HB4r := Lib.hid (HB4.out.trans hB)
    have hszr : ge + 1 < wr.heap.size := Nat.lt_of_lt_of_le hs4 hB.size
    clear hk hxr
    rcases todo with _ | ⟨i, rest⟩
    · obtain ⟨At, ct, rfl, -, -⟩ := HT.out.shape
      have hout : out = reachM ps := HS.out.done HNX.out
      have HOUT := Lib.hid hout
      clear hout hB
      simp only [List.length_nil]
      go_wp2_with fail
      go_ret
      refine ⟨⟨some ⟨ge, 0, none⟩, n, by rw [reachM_len, HL.out]; rfl, by rw [reachM_len, HL.out]; exact Nat.le_refl _, by simp only [maxLen]; omega, ?_⟩, HWW.out.trans (HB4r.out.mono (by omega))⟩
      rw [← HOUT.out]
      exact HI.out.rowAt
    obtain ⟨m, hm⟩ : ∃ m, rest.length = m := ⟨_, rfl⟩
    have hT := HT.out
    rw [List.map_cons, List.length_cons, hm] at hT
    have hT' : OwnS wr (ge + 1) 3 1 u8 (m + 1) (.int .i64 (i : Int) :: ivs (rest.map fun x : Nat => (x : Int))) := hT
    obtain ⟨g, off, cap, hv, hmc, hcm, hbg, hgl2, hcell⟩ := hT'.form (by omega)
    subst hv
    have hpop := hT'.tail
    have hli : wr.cell? ⟨g, off, none⟩ = some (.int .i64 (i : Int)) := by simpa using hcell 0 _ rfl
    have hst := HS.out.take (rest := rest) (i := i) (fun x => List.mem_cons)
    have hiout := HS.out.wait i (by simp)
    have hin : i < n := by
      have := (List.getElem?_eq_some_iff.1 hiout).1
      rw [HS.out.len, HL.out] at this
      exact this
    have e1 : ps[i]? = some (ps[i]'(by rw [HL.out]; exact hin)) := List.getElem?_eq_getElem _
    generalize ps[i]'(by rw [HL.out]; exact hin) = p at e1
    obtain ⟨pk, pn, pl⟩ := p
    obtain ⟨b1, o1, hA1, hb1, h1, h2, A2, c2, h3, h4, h5, h6⟩ := (HF3.out.below HB4r.out (by omega)) i _ e1
    subst hA1
    replace h3 : wr.cell? ⟨b1, o1 + i * 3 + 2, none⟩ = some (.slice A2 pl.length c2) := h3
    replace h6 : RowAt 1 intCells wr w.heap.size A2 pl := h6
    obtain ⟨q, hq⟩ : ∃ q, pl.length = q := ⟨_, rfl⟩
    have hq8 : q ≤ 8 := by rw [← hq]; exact H8.out _ (List.mem_of_getElem? e1)
    rw [hq] at h3
    have hnx : ∀ x ∈ pl, 1 ≤ x ∧ x < (n : Int) := fun x hx => by
      have := HNX.out _ (List.mem_of_getElem? e1) x hx
      rwa [HL.out] at this
    have HPOP := Lib.hid hpop
    clear hpop
    have HQ := Lib.hid hq
    have HNXI := Lib.hid hnx
    have HE1 := Lib.hid e1
    have HSTI := Lib.hid hst
    have HM := Lib.hid hm
    have HRW := Lib.hid h6
    have hfr := run_tail g off m cap
    generalize (if cap = 1 then Value.slice (some ⟨g, off, none⟩) m (cap - 1) else Value.slice (some ⟨g, off + 1, none⟩) m (cap - 1)) = tv2 at hfr HPOP
    have hmi : ((m + 1 : Nat) : Int) - 1 = (m : Int) := by omega
    have hmi2 : (m : Int) + 1 - 1 = (m : Int) := by omega
    have hmpos : (0 : Int) < ((m + 1 : Nat) : Int) := by omega
    have hmpos2 : (0 : Int) < (m : Int) + 1 := by omega
    have hini : (i : Int) < (n : Int) := by omega
    have hm101 : m ≤ 200 := by have := HK.out; simp [hm] at this; omega
    clear e1 hq hnx h1 h2 h4 h5 h6 hT hT' hcell hst hiout hm hB HT
    have h0m : 0 < m + 1 := by omega
    go_wp2_with fail
    go_quiet (fail)
    go_wp2_with fail
    clear hli hfr xr
    obtain ⟨wo, rfl⟩ : ∃ wo : World, wo = wr := ⟨_, rfl⟩
    obtain ⟨go, rfl⟩ : ∃ go : Nat, go = gk := ⟨_, rfl⟩
    go_loopg [8, 10] q (fun gk s4 s39 wr => ∃ (j : Nat) (out' : List Bool) (todo' : List Nat), j + gk = q ∧ s39 = .int .i64 j ∧ Hid (RI ps out' todo' i (pl.take j)) ∧ Hid (BoolsBlk wr ge out') ∧ Below ge W4 wr ∧ Hid (OwnS wr (ge + 1) 3 1 s4 todo'.length (ivs (todo'.map fun x : Nat => (x : Int)))) ∧ RowAt 1 intCells wr w.heap.size A2 pl ∧ Hid (2 * fal out' + todo'.length + 1 ≤ go))
    case atStart => exact ⟨0, out, rest, by omega, rfl, HSTI, Lib.hid (HI.out.drewN _), below_drewN HBr.out _, Lib.hid (by rw [HM.out]; exact HPOP.out), HRW.out, Lib.hid (by have := HK.out; simp at this; omega)⟩
    case round =>
      obtain ⟨j, out', todo', hj, rfl, HSj, HIj, hB, HTj, hrw, HMj⟩ := hrel
      have hj' : j ≤ q := by omega
      have HJ := Lib.hid hj
      have HBj := Lib.hid hB
      clear hj
      by_cases hltj : j < q
      case neg =>
        have hall : pl.take j = pl := List.take_of_length_le (by rw [HQ.out]; omega)
        have hs := HSj.out
        rw [hall] at hs
        have HS2 := Lib.hid (RI.done (p := ⟨pk, pn, pl⟩) hs HE1.out)
        clear hall hs hB hrw
        go_wp2_with fail
        go_roundg (2 * fal out' + todo'.length)
        case measure => have := HMj.out; omega
        case rel => exact ⟨out', todo', rfl, by have := HMj.out; omega, HS2, HIj, HBj.out, HTj⟩
      have e2 : pl[j]? = some (pl[j]'(by rw [HQ.out]; exact hltj)) := List.getElem?_eq_getElem _
      generalize pl[j]'(by rw [HQ.out]; exact hltj) = x at e2
      obtain ⟨hx1, hx2⟩ := HNXI.out x (List.mem_of_getElem? e2)
      obtain ⟨y, rfl⟩ : ∃ y : Nat, x = (y : Int) := ⟨x.toNat, by omega⟩
      have hyn : y < n := by omega
      have htk : pl.take (j + 1) = pl.take j ++ [(y : Int)] := by rw [List.take_add_one, e2]; rfl
      obtain ⟨b2, o2, hA2, hb2, hc2⟩ := hrw j _ e2
      subst hA2
      have hcx : wr.cell? ⟨b2, o2 + j, none⟩ = some (.int .i64 (y : Int)) := by simpa using hc2 0 _ rfl
      have hyl : y < out'.length := by rw [HSj.out.len, HL.out]; exact hyn
      have e3 : out'[y]? = some out'[y] := List.getElem?_eq_getElem hyl
      generalize out'[y] = bv at e3
      have hcy := HIj.out.cell e3
      have hfy := HIj.out.frozen y
      have hgl3 := HIj.out.lt
      have HTK := Lib.hid htk
      have HE3 := Lib.hid e3
      have HRW2 := Lib.hid hrw
      have HMEM := Lib.hid (List.mem_of_getElem? e2)
      have hjq : (j : Int) < (q : Int) := by omega
      have hyni : (y : Int) < (n : Int) := by omega
      have hym : ((y : Int) != -1) = true := by simp
      clear htk hB hrw hc2 e2 e3
      cases bv
      case true =>
        go_wp2_with fail
        go_roundg (gk - 1)
        case measure => have := HJ.out; omega
        case rel =>
          refine ⟨j + 1, out', todo', by have := HJ.out; omega, by go_num, Lib.hid ?_, HIj, HBj.out, HTj, HRW2.out, HMj⟩
          rw [HTK.out]
          exact HSj.out.old HE3.out
      obtain ⟨m2, hm2⟩ : ∃ m2, todo'.length = m2 := ⟨_, rfl⟩
      have hT := HTj.out
      rw [hm2] at hT
      have hp : u8.ownBlock ≠ some ge := fun e => by have := (hT.lt _ e).1; omega
      have hT5 : OwnS (wr.setCell ⟨ge, y, none⟩ (.bool true)) (ge + 1) 3 1 u8 m2 (ivs (todo'.map fun x : Nat => (x : Int))) := hT.setCell hp _
      have hsz2 : ge + 1 ≤ wr.heap.size := by have := HBj.out.size; omega
      have hm2b : m2 ≤ 200 := by have := HMj.out; have := hk2; omega
      have hrow : (wr.setCell ⟨ge, y, none⟩ (.bool true)).cell? ⟨b2, o2 + j, none⟩ = some (.int .i64 (y : Int)) := by
        rw [← hcx]
        exact (Below.setCell (Below.refl ge wr) (p := ⟨ge, y, none⟩) (Nat.le_refl _) _).cell (p := ⟨b2, o2 + j, none⟩) (by show b2 < ge; omega)
      have HT5 := Lib.hid hT5
      have HM2 := Lib.hid hm2
      clear hT hT5 hm2 hrow
      go_wp2_with (at_builtin; go_must (refine wpList_append_S _ rfl (.tmp 65) (.tmp 70) _ rfl (ge + 1) 3 i0 _ 1 8 Tryz.underlying28 hi0 hz0 hz1 hz2 rfl u8 m2 (ivs (todo'.map fun x : Nat => (x : Int))) rfl (by have h9 := HT5.out; (repeat (first | assumption | refine OwnS.drew ?_ | refine OwnS.drewN ?_ _ | refine OwnS.alloc ?_ _ | refine OwnS.setCell ?_ (by assumption) _))) ⟨wr.heap.size, 0, none⟩ 1 1 [.int .i64 (y : Int)] rfl rfl (news_one _ _ _ (by go_simp)) (by simp [Value.oneCell']) (by simp only [maxLen]; omega) (by omega) (by simp; omega) ?_); intro v' w9 hown hgrow hat)
      go_roundg (gk - 1)
      case measure => have := HJ.out; omega
      case rel =>
        have hgx : ∀ g, u8.ownBlock = some g → ge + 1 ≤ g := fun g hg => (HT5.out.lt g hg).1
        have hstep : ∀ B, B ≤ ge → Below B wr w9 := fun B hB => Below.grown ((Below.setCell (Below.refl B wr) (p := ⟨ge, y, none⟩) hB _).alloc (by simp; omega) _) hgrow (by simp; omega) (fun g hg => by have := hgx g hg; omega)
        refine ⟨j + 1, out'.set y true, todo' ++ [y], by have := HJ.out; omega, by go_num, Lib.hid ?_, Lib.hid ?_, ?_, Lib.hid ?_, ?_, Lib.hid ?_⟩
        · rw [HTK.out]
          exact HSj.out.new HE1.out HMEM.out HE3.out
        · exact ((HIj.out.set y true).alloc _).grown hgrow (fun e => hp e.symm)
        · exact HBj.out.trans (hstep ge (Nat.le_refl _))
        · rw [List.length_append, HM2.out, List.map_append]
          simpa [ivs] using hown
        · exact HRW2.out.below (hstep w.heap.size (by omega)) (Nat.le_refl _)
        · have h1 := fal_set _ _ HE3.out
          have h2 := HMj.out
          rw [List.length_append, List.length_singleton]
          omega
end Go.Proofs.YtlclpcobblojnaaGreatDoor
/- The reference's Reachable and begins, walked. -/
namespace Go.Proofs.YtlclpcobblojnaaGreatDoor
open Go.RowKit

/-- How many edges lead to b from points that are reached; whether one of them has others beside it. -/
def edgesM (b : Int) : List Pt → List Bool → Nat
  | p :: ps, r :: rs => (if r then cntM b p.next else 0) + edgesM b ps rs
  | _, _ => 0
def wideM (b : Int) : List Pt → List Bool → Bool
  | p :: ps, r :: rs => (r && (decide (0 < cntM b p.next) && decide (1 < p.next.length))) || wideM b ps rs
  | _, _ => false
theorem edgesM_take {b : Int} {p : Pt} {r : Bool} : ∀ (ps : List Pt) (rs : List Bool) (k : Nat), ps[k]? = some p → rs[k]? = some r → edgesM b (ps.take (k + 1)) (rs.take (k + 1)) = edgesM b (ps.take k) (rs.take k) + (if r then cntM b p.next else 0)
  | [], _, k, h, _ => by simp at h
  | _ :: _, [], k, _, h => by simp at h
  | q :: ps, s :: rs, 0, h, h' => by
    simp at h h'
    subst h h'
    simp [edgesM]
  | q :: ps, s :: rs, k + 1, h, h' => by
    have := edgesM_take (b := b) ps rs k (by simpa using h) (by simpa using h')
    simp only [List.take_succ_cons, edgesM, this]
    omega
theorem wideM_take {b : Int} {p : Pt} {r : Bool} : ∀ (ps : List Pt) (rs : List Bool) (k : Nat), ps[k]? = some p → rs[k]? = some r → wideM b (ps.take (k + 1)) (rs.take (k + 1)) = (wideM b (ps.take k) (rs.take k) || (r && (decide (0 < cntM b p.next) && decide (1 < p.next.length))))
  | [], _, k, h, _ => by simp at h
  | _ :: _, [], k, _, h => by simp at h
  | q :: ps, s :: rs, 0, h, h' => by
    simp at h h'
    subst h h'
    simp [wideM]
  | q :: ps, s :: rs, k + 1, h, h' => by
    have := wideM_take (b := b) ps rs k (by simpa using h) (by simpa using h')
    simp only [List.take_succ_cons, wideM, this, Bool.or_assoc]
theorem edgesM_le {b : Int} : ∀ (ps : List Pt) (rs : List Bool), (∀ p ∈ ps, p.next.length ≤ 8) → edgesM b ps rs ≤ 8 * ps.length
  | [], _, _ => by simp [edgesM]
  | _ :: _, [], _ => by simp [edgesM]
  | p :: ps, r :: rs, h => by
    have h1 := edgesM_le (b := b) ps rs (fun p hp => h p (List.mem_cons_of_mem _ hp))
    have h2 := cntM_le (b := b) (l := p.next)
    have h3 := h p List.mem_cons_self
    unfold edgesM
    rw [List.length_cons]
    split <;> omega
def begM (ps : List Pt) (R : List Bool) (b : Nat) : Bool := decide (b < 2) || (!decide (edgesM (b : Int) ps R = 1) || wideM (b : Int) ps R)

set_option maxHeartbeats 1000000 in
theorem reachableR_any (ps : List Pt) (A : Option Addr) (n c : Nat) (w : World) (hf : FlowAt w w.heap.size A ps) (hl : ps.length = n) (hn : n ≤ 100) (h8 : ∀ p ∈ ps, p.next.length ≤ 8) :
    Calls Tryz.prog 15 #[.agg #[.slice A n c]] w fun e w' => (∃ A c, e = .returned (.slice A (reachV ps).length c) ∧ (reachV ps).length ≤ c ∧ c ≤ maxLen ∧ RowAt 1 boolCells w' w'.heap.size A (reachV ps)) ∧ Below w.heap.size w w' := by
  obtain ⟨W, hW⟩ : ∃ W, w.alloc (.cells #[.slice A n c] 24) = W := ⟨_, rfl⟩
  have hb : Below w.heap.size w W := by rw [← hW]; exact below_alloc _ _
  have hx : Blk W w.heap.size 24 #[.slice A n c] := by rw [← hW]; exact Blk.new w _ _
  have hfW := hf.below hb (Nat.le_refl _)
  have HV := Lib.hid (validR_any ps A n c W (hfW.mono hb.size) hl hn h8)
  have HRC : ∀ w2 : World, Below W.heap.size W w2 → validB ps = true → Calls Tryz.prog 24 #[.agg #[.slice A n c], .int .i64 0, .int .i64 (-1)] w2 fun e w' => (∃ A c, e = .returned (.slice A (reachM ps).length c) ∧ (reachM ps).length ≤ c ∧ c ≤ maxLen ∧ RowAt 1 boolCells w' w'.heap.size A (reachM ps)) ∧ Below w2.heap.size w2 w' := fun w2 hb2 hv => reachR_any ps A n c w2 ((hfW.below hb2 hb.size).mono (Nat.le_trans hb.size hb2.size)) hl hn h8 hv
  have HRC := Lib.hid HRC
  have HB := Lib.hid hb
  have HX := Lib.hid hx
  have x0 := hx.cell 0
  have lx := hx.lt
  clear hf hb hx hl h8 hfW
  go_enter Tryz.func15, Tryz.ntmps15
  go_wp2_with (rw [hW])
  refine HV.out.mono ?_
  rintro e w2 ⟨rfl, hb2⟩
  have HB2 := Lib.hid hb2
  have hx2 := HX.out.below hb2 lx
  have x2 := hx2.cell 0
  have l2 := hx2.lt
  clear hW x0 hb2 hx2 HV
  obtain ⟨V, hV⟩ : ∃ V, validB ps = V := ⟨_, rfl⟩
  rw [hV]
  have HVB := Lib.hid hV
  clear hV
  cases V
  case false =>
    have hres : reachV ps = [] := by unfold reachV; rw [HVB.out]; rfl
    have HRES := Lib.hid hres
    clear hres
    go_wp2_with fail
    go_ret
    rw [HRES.out]
    exact ⟨⟨_, _, rfl, Nat.le_refl _, by simp [maxLen], fun k l h => by simp at h⟩, HB.out.trans ((HB2.out.mono HB.out.size).trans ((below_alloc w2 _).mono (Nat.le_trans HB.out.size HB2.out.size)))⟩
  have hres : reachV ps = reachM ps := by unfold reachV; rw [HVB.out]; rfl
  have HRES := Lib.hid hres
  have HCC := Lib.hid (HRC.out w2 HB2.out HVB.out)
  clear hres
  go_wp2_with fail
  refine HCC.out.mono ?_
  rintro e w3 ⟨⟨A3, c3, rfl, h3, h4, h5⟩, hb3⟩
  clear x2
  go_wp2_with fail
  go_ret
  rw [HRES.out]
  exact ⟨⟨A3, c3, rfl, h3, h4, h5⟩, HB.out.trans ((HB2.out.mono HB.out.size).trans (hb3.mono (Nat.le_trans HB.out.size HB2.out.size)))⟩

set_option maxHeartbeats 4000000 in
set_option maxRecDepth 10000 in
theorem beginsR_any (ps : List Pt) (A : Option Addr) (n c b : Nat) (w : World) (hf : FlowAt w w.heap.size A ps) (hl : ps.length = n) (hn : n ≤ 100) (h8 : ∀ p ∈ ps, p.next.length ≤ 8) (hval : validB ps = true) (hbn : b < n) :
    Calls Tryz.prog 26 #[.agg #[.slice A n c], .int .i64 (b : Int)] w fun e w' => e = .returned (.bool (decide ((reachM ps)[b]? = some true) && begM ps (reachM ps) b)) ∧ Below w.heap.size w w' := by
  obtain ⟨W, hW⟩ : ∃ W, w.alloc (.cells #[.slice A n c] 24) = W := ⟨_, rfl⟩
  have hb : Below w.heap.size w W := by rw [← hW]; exact below_alloc _ _
  have hx : Blk W w.heap.size 24 #[.slice A n c] := by rw [← hW]; exact Blk.new w _ _
  have hfW := hf.below hb (Nat.le_refl _)
  have HV := Lib.hid (reachableR_any ps A n c W (hfW.mono hb.size) hl hn h8)
  have HTO : ∀ w' : World, Below W.heap.size W w' → ∀ (a : Nat) (p : Pt), ps[a]? = some p → Calls Tryz.prog 23 #[.agg #[.slice A n c], .int .i64 (a : Int), .int .i64 (b : Int)] w' fun e w'' => e = .returned (.int .i64 (cntM (b : Int) p.next : Int)) ∧ Below w'.heap.size w' w'' := fun w' hb' a p hp => to_any ps A n c a b p w' ((hfW.below hb' hb.size).mono (Nat.le_trans hb.size hb'.size)) hl hn h8 hp
  have HTO := Lib.hid HTO
  have hrv : reachV ps = reachM ps := by unfold reachV; rw [hval]; rfl
  have hrl : (reachM ps).length = n := by rw [reachM_len]; exact hl
  obtain ⟨R, hR⟩ : ∃ R, reachM ps = R := ⟨_, rfl⟩
  rw [hrv, hR, show R.length = n by rw [← hR]; exact hrl] at HV
  rw [hR] at hrl ⊢
  have HB := Lib.hid hb
  have HF := Lib.hid hfW
  have HX := Lib.hid hx
  have HL := Lib.hid hl
  have H8 := Lib.hid h8
  have HRL := Lib.hid hrl
  have x0 := hx.cell 0
  have lx := hx.lt
  clear hf hb hx hl h8 hfW hrv hR hrl hval
  have er : R[b]? = some (R[b]'(by rw [HRL.out]; exact hbn)) := List.getElem?_eq_getElem _
  generalize R[b]'(by rw [HRL.out]; exact hbn) = rb at er
  have HER := Lib.hid er
  have hbni : (b : Int) < (n : Int) := by omega
  clear er
  go_enter Tryz.func26, Tryz.ntmps26
  go_wp2_with (rw [hW])
  refine HV.out.mono ?_
  rintro e w2 ⟨⟨A3, c3, rfl, hc3, hc4, hr⟩, hb2⟩
  have HB2 := Lib.hid hb2
  have HR := Lib.hid hr
  obtain ⟨b3, o3, hA3, hb3, hc⟩ := hr b _ HER.out
  subst hA3
  have hcb : w2.cell? ⟨b3, o3 + b, none⟩ = some (.bool rb) := by simpa using hc 0 _ rfl
  clear hW x0 hb2 hr hc
  cases rb
  case false =>
    go_wp2_with fail
    go_ret
    rw [HER.out]
    exact ⟨rfl, HB.out.trans (HB2.out.mono HB.out.size)⟩
  go_wp2_with fail
  clear hcb
  go_loopg [6, 7, 8] n (fun gk s6 s7 s8 wr => ∃ k : Nat, k + gk = n ∧ s8 = .int .i64 k ∧ s6 = .int .i64 (edgesM (b : Int) (ps.take k) (R.take k) : Int) ∧ s7 = .bool (wideM (b : Int) (ps.take k) (R.take k)) ∧ Below w2.heap.size w2 wr)
  case atStart => exact ⟨0, by omega, rfl, rfl, rfl, Below.refl _ _⟩
  case round =>
    obtain ⟨k, hk, rfl, rfl, rfl, hB⟩ := hrel
    have hk' : k ≤ n := by omega
    have HK := Lib.hid hk
    have HBr := Lib.hid (HB2.out.trans (hB.mono HB2.out.size))
    have HB2r := Lib.hid hB
    have hxr := HX.out.below HBr.out lx
    have x0 := hxr.cell 0
    have l0 := hxr.lt
    clear hk hxr
    by_cases hltk : k < n
    case neg =>
      have h1 : ps.take k = ps := List.take_of_length_le (by rw [HL.out]; omega)
      have h2 : R.take k = R := List.take_of_length_le (by rw [HRL.out]; omega)
      rw [h1, h2]
      obtain ⟨E, hE⟩ : ∃ E, edgesM (b : Int) ps R = E := ⟨_, rfl⟩
      obtain ⟨V, hV⟩ : ∃ V, wideM (b : Int) ps R = V := ⟨_, rfl⟩
      rw [hE, hV]
      have hbeg : begM ps R b = (decide (b < 2) || (!decide (E = 1) || V)) := by unfold begM; rw [hE, hV]
      have HBEG := Lib.hid hbeg
      clear hbeg h1 h2 hE hV hB
      by_cases hb2 : b < 2
      · have hb2i : (b : Int) < 2 := by omega
        have hr : begM ps R b = true := by rw [HBEG.out]; simp [hb2]
        have HRS := Lib.hid hr
        clear hr
        go_wp2_with fail
        go_ret
        rw [HER.out, HRS.out]
        exact ⟨rfl, HB.out.trans (HBr.out.mono HB.out.size)⟩
      have hb2i : ¬ (b : Int) < 2 := by omega
      by_cases hE1 : E = 1
      · subst hE1
        have hr : begM ps R b = V := by rw [HBEG.out]; simp [hb2]
        have HRS := Lib.hid hr
        clear hr
        go_wp2_with fail
        go_ret
        rw [HER.out, HRS.out]
        exact ⟨ret_bool (by first | rfl | simp), HB.out.trans (HBr.out.mono HB.out.size)⟩
      · have hEb : ((E : Int) != 1) = true := by simp; omega
        have hr : begM ps R b = true := by rw [HBEG.out]; simp [hb2, hE1]
        have HRS := Lib.hid hr
        clear hr
        go_wp2_with fail
        go_ret
        rw [HER.out, HRS.out]
        exact ⟨ret_bool (by first | rfl | simp), HB.out.trans (HBr.out.mono HB.out.size)⟩
    have e1 : ps[k]? = some (ps[k]'(by rw [HL.out]; exact hltk)) := List.getElem?_eq_getElem _
    generalize ps[k]'(by rw [HL.out]; exact hltk) = p at e1
    have e2 : R[k]? = some (R[k]'(by rw [HRL.out]; exact hltk)) := List.getElem?_eq_getElem _
    generalize R[k]'(by rw [HRL.out]; exact hltk) = rk at e2
    have he := edgesM_take (b := (b : Int)) ps R k e1 e2
    have hw := wideM_take (b := (b : Int)) ps R k e1 e2
    have hele := edgesM_le (b := (b : Int)) (ps.take k) (R.take k) (fun p hp => H8.out p (List.mem_of_mem_take hp))
    have hlk : (ps.take k).length ≤ 100 := by have := List.length_take_le k ps; omega
    obtain ⟨b4, o4, hA4, hb4, hc4'⟩ := (HR.out.below hB (Nat.le_refl _)) k _ e2
    cases hA4
    have hck : wr.cell? ⟨b3, o3 + k, none⟩ = some (.bool rk) := by simpa using hc4' 0 _ rfl
    obtain ⟨b1, o1, hA1, hb1, h1, h2, A2, c2, h3, h4, h5, h6⟩ := (HF.out.below HBr.out HB.out.size) k _ e1
    subst hA1
    obtain ⟨q, hq⟩ : ∃ q, p.next.length = q := ⟨_, rfl⟩
    have hq8 : q ≤ 8 := by rw [← hq]; exact H8.out _ (List.mem_of_getElem? e1)
    have hqc := cntM_le (b := (b : Int)) (l := p.next)
    rw [hq] at h3 hw hqc
    obtain ⟨E, hE⟩ : ∃ E, edgesM (b : Int) (ps.take k) (R.take k) = E := ⟨_, rfl⟩
    obtain ⟨V, hV⟩ : ∃ V, wideM (b : Int) (ps.take k) (R.take k) = V := ⟨_, rfl⟩
    obtain ⟨T, hT⟩ : ∃ T, cntM (b : Int) p.next = T := ⟨_, rfl⟩
    rw [hE] at he hele ⊢
    rw [hV] at hw ⊢
    rw [hT] at he hw hqc
    have HTC : ∀ w' : World, Below W.heap.size W w' → Calls Tryz.prog 23 #[.agg #[.slice (some ⟨b1, o1, none⟩) n c], .int .i64 (k : Int), .int .i64 (b : Int)] w' fun e w'' => e = .returned (.int .i64 (T : Int)) ∧ Below w'.heap.size w' w'' := fun w' hb' => by
      have := HTO.out w' hb' k p e1
      rwa [hT] at this
    have HTC := Lib.hid HTC
    have HE := Lib.hid he
    have HWD := Lib.hid hw
    have HF5 := Lib.hid h3
    have hE800 : E ≤ 800 := by omega
    have hT8 : T ≤ 8 := by omega
    have hkn : (k : Int) < (n : Int) := by omega
    clear he hw hele hlk hc4' h1 h2 h4 h5 h6 hE hV hT e1 e2 hqc hB
    cases rk
    case false =>
      go_wp2_with fail
      go_roundg (gk - 1)
      case measure => have := HK.out; omega
      case rel => exact ⟨k + 1, by have := HK.out; omega, by go_num, by rw [HE.out]; rfl, by rw [HWD.out]; simp, HB2r.out⟩
    have HT1 := Lib.hid (HTC.out wr HBr.out)
    go_wp2_with fail
    refine HT1.out.mono ?_
    rintro e w4 ⟨rfl, hb4⟩
    have hB4 := HBr.out.trans (hb4.mono HBr.out.size)
    have HB4 := Lib.hid hB4
    have HB24 := Lib.hid (HB2r.out.trans (hb4.mono HB2r.out.size))
    have hx4 := HX.out.below hB4 lx
    have x4 := hx4.cell 0
    have l4 := hx4.lt
    have h34 : w4.cell? ⟨b1, o1 + k * 3 + 2, none⟩ = some (.slice A2 q c2) := (hb4.cell (p := ⟨b1, _, none⟩) (by show b1 < wr.heap.size; omega)).trans HF5.out
    have HF6 := Lib.hid h34
    have HT2 := Lib.hid (HTC.out w4 hB4)
    clear hb4 hB4 hx4 x0 l0 h3 hck h34
    cases V
    case true =>
      go_wp2_with fail
      go_roundg (gk - 1)
      case measure => have := HK.out; omega
      case rel => exact ⟨k + 1, by have := HK.out; omega, by go_num, by rw [HE.out]; simp, by rw [HWD.out]; simp, HB24.out⟩
    go_wp2_with fail
    refine HT2.out.mono ?_
    rintro e w5 ⟨rfl, hb5⟩
    have hB5 := HB4.out.trans (hb5.mono HB4.out.size)
    have HB5 := Lib.hid hB5
    have HB25 := Lib.hid (HB24.out.trans (hb5.mono HB24.out.size))
    have hx5 := HX.out.below hB5 lx
    have x5 := hx5.cell 0
    have l5 := hx5.lt
    have h35 : w5.cell? ⟨b1, o1 + k * 3 + 2, none⟩ = some (.slice A2 q c2) := (hb5.cell (p := ⟨b1, _, none⟩) (by show b1 < w4.heap.size; omega)).trans HF6.out
    clear hb5 hB5 hx5 x4 l4
    by_cases hT0 : T = 0
    · subst hT0
      go_wp2_with fail
      go_roundg (gk - 1)
      case measure => have := HK.out; omega
      case rel => exact ⟨k + 1, by have := HK.out; omega, by go_num, by rw [HE.out]; simp, by rw [HWD.out]; simp, HB25.out⟩
    have hTi : (0 : Int) < (T : Int) := by omega
    by_cases hq1 : 1 < q
    · have hqi : (1 : Int) < (q : Int) := by omega
      go_wp2_with fail
      go_roundg (gk - 1)
      case measure => have := HK.out; omega
      case rel => exact ⟨k + 1, by have := HK.out; omega, by go_num, by rw [HE.out]; simp, by rw [HWD.out]; simp [hq1]; omega, HB25.out⟩
    · have hqi : ¬ (1 : Int) < (q : Int) := by omega
      go_wp2_with fail
      go_roundg (gk - 1)
      case measure => have := HK.out; omega
      case rel => exact ⟨k + 1, by have := HK.out; omega, by go_num, by rw [HE.out]; simp, by rw [HWD.out]; simp [hq1]; omega, HB25.out⟩
end Go.Proofs.YtlclpcobblojnaaGreatDoor
/- Basic blocks: plain. -/
namespace Go.Proofs.YtlclpcobblojnaaGreatDoor
open Go.RowKit

/-- What follows a point in its block. -/
def chainM (ps : List Pt) (R : List Bool) : Nat → Nat → List Nat
  | 0, _ => []
  | f + 1, last => match ps[last]? with
    | some p => match p.next with
      | [x] => if begM ps R x.toNat then [] else x.toNat :: chainM ps R f x.toNat
      | _ => []
    | none => []
def blockM (ps : List Pt) (R : List Bool) (n i : Nat) : List Nat := i :: chainM ps R n i
def startsB (ps : List Pt) (R : List Bool) (i : Nat) : Bool := decide (R[i]? = some true) && begM ps R i
abbrev natI (l : List Nat) : List Int := l.map fun x : Nat => (x : Int)
def blocksUpto (ps : List Pt) (R : List Bool) (n m : Nat) : List (List Int) := ((List.range m).filter (startsB ps R)).map fun i => natI (blockM ps R n i)
noncomputable def blocksM (ps : List Pt) : List (List Int) := if validB ps then blocksUpto ps (reachM ps) ps.length ps.length else []
theorem blocksUpto_succ (ps : List Pt) (R : List Bool) (n m : Nat) : blocksUpto ps R n (m + 1) = blocksUpto ps R n m ++ (if startsB ps R m then [natI (blockM ps R n m)] else []) := by
  unfold blocksUpto
  rw [List.range_succ, List.filter_append, List.map_append]
  congr 1
  by_cases h : startsB ps R m = true
  · simp [h]
  · simp [h]
theorem blocksUpto_len (ps : List Pt) (R : List Bool) (n m : Nat) : (blocksUpto ps R n m).length ≤ m := by
  unfold blocksUpto
  rw [List.length_map]
  exact Nat.le_trans (List.length_filter_le _ _) (by simp)

theorem nodup_len : ∀ (n : Nat) (l : List Nat), l.Nodup → (∀ x ∈ l, x < n) → l.length ≤ n
  | 0, l, _, h => by
    cases l with
    | nil => simp
    | cons a l => exact absurd (h a List.mem_cons_self) (by omega)
  | n + 1, l, hn, h => by
    have h1 := nodup_len n (l.erase n) (hn.erase n) fun x hx => by
      have h2 := (hn.mem_erase_iff).1 hx
      have := h x h2.2
      have := h2.1
      omega
    by_cases hm : n ∈ l
    · rw [List.length_erase_of_mem hm] at h1
      omega
    · rw [List.erase_of_not_mem hm] at h1
      omega

theorem edgesM_one {b : Int} {p : Pt} : ∀ {ps : List Pt} {rs : List Bool} {a : Nat}, ps[a]? = some p → rs[a]? = some true → cntM b p.next ≤ edgesM b ps rs
  | [], _, _, h, _ => by simp at h
  | _ :: _, [], _, _, h => by simp at h
  | q :: ps, s :: rs, 0, h, h' => by
    simp at h h'
    subst h h'
    simp [edgesM]
  | q :: ps, s :: rs, a + 1, h, h' => by
    have := edgesM_one (b := b) (ps := ps) (rs := rs) (a := a) (by simpa using h) (by simpa using h')
    unfold edgesM
    omega
theorem edgesM_two {b : Int} {p p' : Pt} : ∀ {ps : List Pt} {rs : List Bool} {a a' : Nat}, a < a' → ps[a]? = some p → rs[a]? = some true → ps[a']? = some p' → rs[a']? = some true → cntM b p.next + cntM b p'.next ≤ edgesM b ps rs
  | [], _, _, _, _, h, _, _, _ => by simp at h
  | _ :: _, [], _, _, _, _, h, _, _ => by simp at h
  | q :: ps, s :: rs, 0, a' + 1, _, h, h', h2, h2' => by
    simp at h h'
    subst h h'
    have := edgesM_one (b := b) (ps := ps) (rs := rs) (a := a') (by simpa using h2) (by simpa using h2')
    unfold edgesM
    simp
    omega
  | q :: ps, s :: rs, a + 1, a' + 1, hlt, h, h', h2, h2' => by
    have := edgesM_two (b := b) (ps := ps) (rs := rs) (a := a) (a' := a') (by omega) (by simpa using h) (by simpa using h') (by simpa using h2) (by simpa using h2')
    unfold edgesM
    omega
theorem edgesM_pair {b : Int} {p p' : Pt} {ps : List Pt} {rs : List Bool} {a a' : Nat} (hne : a ≠ a') (h1 : ps[a]? = some p) (h2 : rs[a]? = some true) (h3 : ps[a']? = some p') (h4 : rs[a']? = some true) (hb : 1 ≤ cntM b p.next) (hb' : 1 ≤ cntM b p'.next) : 2 ≤ edgesM b ps rs := by
  rcases Nat.lt_or_gt_of_ne hne with h | h
  · have := edgesM_two (b := b) h h1 h2 h3 h4; omega
  · have := edgesM_two (b := b) h h3 h4 h1 h2; omega
theorem cntM_single (y : Nat) : cntM (y : Int) [(y : Int)] = 1 := by simp [cntM]

/-- A block on the way. -/
structure ChI (ps : List Pt) (R : List Bool) (n i : Nat) (l : List Nat) (last f : Nat) : Prop where
  whole : blockM ps R n i = l ++ chainM ps R f last
  fuel : f + l.length = n + 1
  lastE : l[l.length - 1]? = some last
  nodup : l.Nodup
  lt : ∀ x ∈ l, x < n
  rch : ∀ x ∈ l, R[x]? = some true
  link : ∀ (k x y : Nat), l[k]? = some x → l[k + 1]? = some y → ∃ p, ps[x]? = some p ∧ p.next = [(y : Int)]
  non : ∀ (k y : Nat), l[k + 1]? = some y → begM ps R y = false
  head : l[0]? = some i
  beg : begM ps R i = true
theorem ChI.start {ps : List Pt} {R : List Bool} {n i : Nat} (hi : i < n) (hr : R[i]? = some true) (hb : begM ps R i = true) : ChI ps R n i [i] i n :=
  ⟨rfl, rfl, rfl, List.nodup_cons.2 ⟨by simp, List.nodup_nil⟩, fun x hx => by rw [List.mem_singleton.1 hx]; exact hi, fun x hx => by rw [List.mem_singleton.1 hx]; exact hr, fun k x y h1 h2 => by simp at h2, fun k y h => by simp at h, rfl, hb⟩
theorem ChI.pos {ps : List Pt} {R : List Bool} {n i last f : Nat} {l : List Nat} (h : ChI ps R n i l last f) : 0 < l.length := by
  have := (List.getElem?_eq_some_iff.1 h.head).1
  exact this
theorem ChI.stop {ps : List Pt} {R : List Bool} {n i last f : Nat} {l : List Nat} (h : ChI ps R n i l last f) {p : Pt} (hp : ps[last]? = some p) (hs : p.next.length ≠ 1 ∨ ∃ y : Nat, p.next[0]? = some (y : Int) ∧ begM ps R y = true) : blockM ps R n i = l := by
  rw [h.whole]
  have : chainM ps R f last = [] := by
    cases f with
    | zero => rfl
    | succ f =>
      unfold chainM
      rw [hp]
      simp only
      split
      · rename_i x hx
        rw [hx] at hs
        rcases hs with h1 | ⟨y, h1, h2⟩
        · simp at h1
        · simp at h1
          subst h1
          rw [if_pos (by simpa using h2)]
      · rfl
  rw [this, List.append_nil]
theorem ChI.step {ps : List Pt} {n i last f : Nat} {l : List Nat} (h : ChI ps (reachM ps) n i l last f) {p : Pt} {y : Nat} (hl : ps.length = n) (hp : ps[last]? = some p) (hx : p.next = [(y : Int)]) (hy : y < n) (hb : begM ps (reachM ps) y = false) :
    ∃ f', f = f' + 1 ∧ ChI ps (reachM ps) n i (l ++ [y]) y f' := by
  have hpos := h.pos
  have hlast : last ∈ l := List.mem_of_getElem? h.lastE
  have hrl := h.rch last hlast
  have hry : (reachM ps)[y]? = some true := by
    have hR : ∀ k, k < ps.length → (reachM ps)[k]? = some (@decide (Rch ps k) (Classical.propDecidable _)) := fun k hk => by
      unfold reachM
      rw [List.getElem?_map, List.getElem?_range hk]
      rfl
    rw [hR last (by rw [hl]; exact h.lt last hlast)] at hrl
    rw [hR y (by rw [hl]; exact hy)]
    have h1 : Rch ps last := by
      have := Option.some.inj hrl
      exact @of_decide_eq_true _ (Classical.propDecidable _) this
    have h2 : Rch ps y := .step h1 hp (by rw [hx]; simp)
    rw [@decide_eq_true _ (Classical.propDecidable _) h2]
  have hny : y ∉ l := fun hm => by
    obtain ⟨k, hk, hky⟩ := List.getElem_of_mem hm
    have hk? : l[k]? = some y := by rw [List.getElem?_eq_getElem hk, hky]
    cases k with
    | zero =>
      rw [h.head] at hk?
      cases hk?
      rw [h.beg] at hb
      cases hb
    | succ k =>
      have hk1 : k < l.length := by omega
      have e1 : l[k]? = some l[k] := List.getElem?_eq_getElem hk1
      obtain ⟨p', hp', hx'⟩ := h.link k _ y e1 hk?
      have hne : l[k] ≠ last := fun e => by
        have e2 := h.lastE
        have e3 : l[l.length - 1]? = some l[k] := by rw [e2, e]
        have := (List.getElem?_eq_some_iff.1 e3).2
        have h5 := List.pairwise_iff_getElem.1 (List.nodup_iff_pairwise_ne.1 h.nodup) k (l.length - 1) hk1 (by omega) (by omega)
        exact h5 this.symm
      have h2 := edgesM_pair (b := (y : Int)) hne hp' (h.rch _ (List.mem_of_getElem? e1)) hp hrl (by rw [hx', cntM_single]; exact Nat.le_refl _) (by rw [hx, cntM_single]; exact Nat.le_refl _)
      have h3 : edgesM (y : Int) ps (reachM ps) = 1 := by
        unfold begM at hb
        simp at hb
        exact hb.2.1
      omega
  have hlen := nodup_len n (l ++ [y]) (by
    rw [List.nodup_append]
    exact ⟨h.nodup, List.nodup_cons.2 ⟨by simp, List.nodup_nil⟩, fun a ha b hb' => by rw [List.mem_singleton.1 hb']; rintro rfl; exact hny ha⟩) (fun x hx => by
      rcases List.mem_append.1 hx with h1 | h1
      · exact h.lt x h1
      · rw [List.mem_singleton.1 h1]; exact hy)
  rw [List.length_append, List.length_singleton] at hlen
  have hfu := h.fuel
  obtain ⟨f', rfl⟩ : ∃ f', f = f' + 1 := ⟨f - 1, by omega⟩
  refine ⟨f', rfl, ⟨?_, by rw [List.length_append, List.length_singleton]; omega, by simp, ?_, fun x hx => ?_, fun x hx => ?_, fun k x z h1 h2 => ?_, fun k z hz => ?_, ?_, h.beg⟩⟩
  · rw [h.whole]
    have : chainM ps (reachM ps) (f' + 1) last = y :: chainM ps (reachM ps) f' y := by
      rw [chainM, hp]
      simp only [hx]
      rw [if_neg (by simp [hb])]
      simp
    rw [this, List.append_assoc]
    rfl
  · rw [List.nodup_append]
    exact ⟨h.nodup, List.nodup_cons.2 ⟨by simp, List.nodup_nil⟩, fun a ha b hb' => by rw [List.mem_singleton.1 hb']; rintro rfl; exact hny ha⟩
  · rcases List.mem_append.1 hx with h1 | h1
    · exact h.lt x h1
    · rw [List.mem_singleton.1 h1]; exact hy
  · rcases List.mem_append.1 hx with h1 | h1
    · exact h.rch x h1
    · rw [List.mem_singleton.1 h1]; exact hry
  · have hk2 := (List.getElem?_eq_some_iff.1 h2).1
    rw [List.length_append, List.length_singleton] at hk2
    rw [List.getElem?_append_left (by omega)] at h1
    by_cases e : k + 1 < l.length
    · rw [List.getElem?_append_left e] at h2
      exact h.link k x z h1 h2
    · have hk : k = l.length - 1 := by omega
      rw [List.getElem?_append_right (by omega), show k + 1 - l.length = 0 by omega] at h2
      simp at h2
      subst h2
      rw [hk, h.lastE] at h1
      cases h1
      exact ⟨p, hp, hx⟩
  · by_cases e : k + 1 < l.length
    · rw [List.getElem?_append_left e] at hz
      exact h.non k z hz
    · have hk2 := (List.getElem?_eq_some_iff.1 hz).1
      rw [List.length_append, List.length_singleton] at hk2
      rw [List.getElem?_append_right (by omega), show k + 1 - l.length = 0 by omega] at hz
      simp at hz
      subst hz
      exact hb
  · rw [List.getElem?_append_left hpos]
    exact h.head
end Go.Proofs.YtlclpcobblojnaaGreatDoor
/- A call in a region that draws an order, with guards. -/
namespace Go.Proofs.YtlclpcobblojnaaGreatDoor
open Go.RowKit

theorem wpHG_call {P : Program} {ops : Array Oper} {Q : Exit → Act → World → Prop} {S : World → Prop} {ex : List Nat} {k : Nat} {ss : List Bool} {o : Oper} {rest : List Oper} {a : Act} {w : World} {f : FuncId} {args : Array Value} (hg : Region.wanted o (yielded ops a.tmps) = true)
    (hr : (execOp a.eval o).run P w = .ok (.enter f args) w) (h : Calls P f args w fun e w' => ∃ v, e = .returned v ∧ (ex.contains k = false → S w') ∧ wpHG P ops Q S ex (k + 1) ss rest (a.put o.dst v) w') : wpHG P ops Q S ex k (false :: ss) (o :: rest) a w :=
  ⟨hg, by unfold Oper.wp; rw [hr]; exact h.mono (fun e w' ⟨v, he, h1, h2⟩ => by subst he; exact ⟨h1, h2⟩)⟩
end Go.Proofs.YtlclpcobblojnaaGreatDoor
