/- ReportOrder: the law returns true for every source and every diagnostics. Part 5 of 17. -/
import Derived.Test.YtinpopjnnljkhaaGreatDoorOrd04
import Derived.Maps.RangeRun
import Derived.CallsIn
/- SortedStableFunc and Diagnostics, walked. -/
namespace Go.Proofs.YtinpopjnnljkhaaGreatDoor
open Go.RowKit Go.Sort

theorem holds_of_row {w : World} {B g : Nat} {xs : List Rd} (h : RowAt 5 rdCells w B (some ⟨g, 0, none⟩) xs) (hf : ∀ i, w.frozen? ⟨g, i, none⟩ = false) : HoldsK rdCells 5 w g 0 xs.toArray := by
  intro t ht
  rw [size_flatK] at ht
  refine ⟨?_, hf _⟩
  rw [get_flatK _ _ _ _ ht]
  have hk : t / 5 < xs.length := by simp at ht; omega
  have e1 : xs[t / 5]? = some (xs[t / 5]'hk) := List.getElem?_eq_getElem _
  obtain ⟨b, o, hA, hb, hc⟩ := h _ _ e1
  cases hA
  have e2 : xs.toArray[t / 5]! = xs[t / 5]'hk := by simp [getElem!_pos, hk]
  rw [e2]
  have hm : t % 5 < 5 := Nat.mod_lt _ (by omega)
  have hlen : (rdCells (xs[t / 5]'hk)).length = 5 := rfl
  have e3 : (rdCells (xs[t / 5]'hk))[t % 5]? = some ((rdCells (xs[t / 5]'hk))[t % 5]!) := by
    rw [List.getElem?_eq_getElem (by omega), getElem!_pos _ _ (by omega)]
  have := hc _ _ e3
  have e4 : 0 + t / 5 * 5 + t % 5 = 0 + t := by omega
  rw [e4] at this
  exact this
theorem row_of_holds {w : World} {g : Nat} {d : Array Rd} (h : HoldsK rdCells 5 w g 0 d) (hg : g < w.heap.size) : RowAt 5 rdCells w w.heap.size (some ⟨g, 0, none⟩) d.toList := by
  intro k x hk
  have hkl : k < d.size := by have := (List.getElem?_eq_some_iff.1 hk).1; simpa using this
  refine ⟨g, 0, rfl, hg, fun j u hj => ?_⟩
  have hj5 : j < 5 := (List.getElem?_eq_some_iff.1 hj).1
  have := (h.cell hkl hj5).1
  have e : d[k]! = x := by
    rw [getElem!_pos d k hkl]
    have := (List.getElem?_eq_some_iff.1 hk).2
    simpa using this
  rw [e, show (rdCells x)[j]! = u from by rw [getElem!_pos (rdCells x) j hj5]; exact (List.getElem?_eq_some_iff.1 hj).2] at this
  exact this

set_option maxHeartbeats 8000000 in
set_option maxRecDepth 100000 in
theorem sorted_any (Bv : Nat) (A : Option Addr) (n cap : Nat) (xs : List Rd) (hl : xs.length = n) (hn : n ≤ 20) (hT : TagUp 1 xs.toArray.size xs.toArray) (w : World)
    (hBs : w.cell? ⟨Bv, 0, none⟩ = some (.slice A n cap)) (hBn : Bv < w.heap.size) (hX : RowAt 5 rdCells w w.heap.size A xs) :
    Calls Tryz.prog 24 #[.func (.func 56) #[] #[.pointer (some ⟨Bv, 0, none⟩)], .func (.func 26) #[] #[]] w fun e w' => (∃ A' c', e = .returned (.slice A' n c') ∧ RowAt 5 rdCells w' w'.heap.size A' (srtD xs.toArray).toList) ∧ Below w.heap.size w w' := by
  have HC := Lib.hid (collect_any Bv A n cap xs hl (by omega) w hBs hBn hX)
  have HL := Lib.hid hl
  have HT := Lib.hid hT
  clear hBs hX hl hT
  go_enter Tryz.func24, Tryz.ntmps24
  go_wp2_with fail
  refine HC.out.mono ?_
  rintro e w1 ⟨v, rfl, hrow, hb1⟩
  have HB1 := Lib.hid hb1
  clear hb1
  rcases hrow.2 with ⟨rfl, h0⟩ | ⟨g, cp, cur, rfl, hbg, hg, h1, h2, h3, h4⟩
  · have hx0 : xs = [] := List.eq_nil_of_length_eq_zero (by rw [HL.out]; exact h0)
    subst h0
    have HS := Lib.hid (sortStable_none 0 (.func (.func 26) #[] #[]) w1)
    have HX0 := Lib.hid hx0
    clear hx0 hrow
    go_wp2_with fail
    refine HS.out.mono ?_
    rintro e w2 ⟨rfl, rfl⟩
    go_wp2_with fail
    go_ret
    refine ⟨⟨none, 0, rfl, ?_⟩, HB1.out⟩
    rw [HX0.out]
    intro k x hk
    have : (srtD ([] : List Rd).toArray).toList = [] := by
      have := (srtD_size ([] : List Rd).toArray (fun p q _ _ h => by simp at h)).1
      exact List.eq_nil_of_length_eq_zero (by simpa using this)
    rw [this] at hk
    simp at hk
  · have hown : OwnS w1 w.heap.size 35 5 (.slice (some ⟨g, 0, none⟩) n cp) n (xs.flatMap rdCells) := OwnS.of_row hrow
    have hra := hown.rowAt (cells := rdCells) (l := xs) rfl rfl (fun _ _ => rfl) HL.out
    have hfr : ∀ i, w1.frozen? ⟨g, i, none⟩ = false := fun i => Blk.frozen (t := 35) (cs := cur) hg i
    have hhk := holds_of_row hra hfr
    have hgl : g < w1.heap.size := (Array.getElem?_eq_some_iff.1 hg).1
    have HS := Lib.hid (sortStable_any g 0 cp n xs.toArray w1 hhk hgl HT.out (by simpa using HL.out) hn)
    have HG := Lib.hid (And.intro hbg hgl)
    clear hown hra hfr hhk hrow hg h3 h4
    go_wp2_with fail
    refine HS.out.mono ?_
    rintro e w2 ⟨rfl, hh, hb⟩
    have HH := Lib.hid hh
    have HB2 := Lib.hid (hb _ HG.out.1)
    have HB3 := Lib.hid (hb _ (Nat.le_refl _))
    clear hh hb
    go_wp2_with fail
    go_ret
    refine ⟨⟨_, cp, rfl, row_of_holds HH.out ?_⟩, HB1.out.trans HB2.out⟩
    exact Nat.lt_of_lt_of_le HG.out.2 HB3.out.size

set_option maxHeartbeats 4000000 in
theorem Values_any (A : Option Addr) (n cap : Nat) (w : World) : Calls Tryz.prog 25 #[.slice A n cap] w fun e w' => e = .returned (.func (.func 56) #[] #[.pointer (some ⟨w.heap.size, 0, none⟩)]) ∧ w' = w.alloc (.cells #[.slice A n cap] 29) := by
  go_enter Tryz.func25, Tryz.ntmps25
  go_wp2_with fail
  go_ret
  exact ⟨rfl, rfl⟩

/-- The lines of one, with the empty one ahead of it. -/
def pieceM (s : ByteArray) (l : List Rd) (k : Nat) : List ByteArray := (if 0 < k then [⟨#[]⟩] else []) ++ (match l[k]? with | some x => diagM s x.dg | none => [])
def outK (s : ByteArray) (l : List Rd) (k : Nat) : List ByteArray := (List.range k).flatMap (pieceM s l)
theorem outK_succ (s : ByteArray) (l : List Rd) (k : Nat) : outK s l (k + 1) = outK s l k ++ pieceM s l k := by
  unfold outK
  rw [List.range_succ, List.flatMap_append]
  simp
theorem diagM_len (s : ByteArray) (d : Dg) : (diagM s d).length = 3 + d.chain.length := by
  unfold diagM
  simp
  omega
theorem outK_len (s : ByteArray) (l : List Rd) (hf : ∀ x ∈ l, x.dg.chain.length ≤ 20) : ∀ k, (outK s l k).length ≤ 24 * k := by
  intro k
  induction k with
  | zero => simp [outK]
  | succ k ih =>
    rw [outK_succ, List.length_append]
    have : (pieceM s l k).length ≤ 24 := by
      unfold pieceM
      rw [List.length_append]
      have h1 : (if 0 < k then [(⟨#[]⟩ : ByteArray)] else []).length ≤ 1 := by split <;> simp
      have h2 : (match l[k]? with | some x => diagM s x.dg | none => []).length ≤ 23 := by
        split
        · rename_i x hx
          rw [diagM_len]
          have := hf x (List.mem_of_getElem? hx)
          omega
        · simp
      omega
    omega
theorem srt_mem {xs : List Rd} (hT : TagUp 1 xs.toArray.size xs.toArray) {x : Rd} (h : x ∈ (srtD xs.toArray).toList) : x ∈ xs := by
  have := (srtD_size _ hT).2.1.mem_iff.1 h
  simpa using this
theorem srt_len {xs : List Rd} (hT : TagUp 1 xs.toArray.size xs.toArray) : (srtD xs.toArray).toList.length = xs.length := by
  have := (srtD_size _ hT).1
  simpa using this

set_option maxHeartbeats 8000000 in
set_option maxRecDepth 100000 in
theorem Diagnostics_any (s : ByteArray) (A : Option Addr) (n cap : Nat) (xs : List Rd) (w : World) (hs : s.size ≤ 1500) (hl : xs.length = n) (hn : n ≤ 20) (hT : TagUp 1 xs.toArray.size xs.toArray) (hX : RowAt 5 rdCells w w.heap.size A xs)
    (hc : ∀ x ∈ xs, ChAt w w.heap.size x) (hf : ∀ x ∈ xs, fewD x.dg) (hok : ∀ x ∈ xs, okI x.dg.at_ ∧ okI x.dg.fin ∧ okI x.dg.code) (hTab : TabOk w) :
    Calls Tryz.prog 11 #[.string s, .slice A n cap] w fun e w' => (∃ v, e = .returned v ∧ OwnS w' w.heap.size 9 1 v (outK s (srtD xs.toArray).toList n).length (strV (outK s (srtD xs.toArray).toList n))) ∧ Below w.heap.size w w' := by
  obtain ⟨i0, hi0, hz0, hz1, hz2⟩ := info_parts str_info
  obtain ⟨W, hW⟩ : ∃ W, w.alloc (.cells #[.slice A n cap] 29) = W := ⟨_, rfl⟩
  have hb : Below w.heap.size w W := by rw [← hW]; exact below_alloc _ _
  have hbx : Blk W w.heap.size 29 #[.slice A n cap] := by rw [← hW]; exact Blk.new w _ _
  have HSO := Lib.hid (sorted_any w.heap.size A n cap xs hl hn hT W (hbx.cell 0) hbx.lt ((hX.below hb (Nat.le_refl _)).mono hb.size))
  have hmem : ∀ x ∈ (srtD xs.toArray).toList, x ∈ xs := fun x h => srt_mem hT h
  have hlen : (srtD xs.toArray).toList.length = n := by rw [srt_len hT, hl]
  obtain ⟨S, hS⟩ : ∃ S, (srtD xs.toArray).toList = S := ⟨_, rfl⟩
  rw [hS] at HSO hmem hlen ⊢
  have hol := outK_len s S (fun x h => (hf x (hmem x h)).2.1)
  have HLEN := Lib.hid hlen
  have HOL := Lib.hid hol
  have HC := Lib.hid (fun x h => hc x (hmem x h))
  have HF := Lib.hid (fun x h => hf x (hmem x h))
  have HOK := Lib.hid (fun x h => hok x (hmem x h))
  have HTAB := Lib.hid hTab
  have HB := Lib.hid hb
  clear hS hb hbx hX hc hf hok hTab hT hl hlen hmem hol
  go_enter Tryz.func11, Tryz.ntmps11
  go_wp2_with fail
  refine (Values_any A n cap w).mono ?_
  rintro e w1 ⟨rfl, rfl⟩
  rw [hW]
  clear hW
  go_wp2_with fail
  refine HSO.out.mono ?_
  rintro e w2 ⟨⟨A', c', rfl, hra⟩, hb2⟩
  have HRA := Lib.hid hra
  have HB2 := Lib.hid (HB.out.trans (hb2.mono HB.out.size))
  clear hra hb2
  go_wp2_with fail
  go_loopg [6, 14] n (fun gk s6 s14 wr => ∃ k : Nat, k + gk = n ∧ s14 = .int .i64 k ∧ Below w2.heap.size w2 wr ∧ OwnS wr w2.heap.size 9 1 s6 (outK s S k).length (strV (outK s S k)))
  case atStart => exact ⟨0, by omega, rfl, Below.refl _ _, OwnS.nil _ _ _ _⟩
  case round =>
    obtain ⟨k, hk, rfl, hB, ho⟩ := hrel
    have hk' : k ≤ n := by omega
    have HK := Lib.hid hk
    have HBr := Lib.hid hB
    have hbs := hB.size
    have hlk := HOL.out k
    obtain ⟨m, hm⟩ : ∃ m, (outK s S k).length = m := ⟨_, rfl⟩
    rw [hm] at ho hlk
    obtain ⟨zs, hzs⟩ : ∃ zs, strV (outK s S k) = zs := ⟨_, rfl⟩
    rw [hzs] at ho
    have HZS := Lib.hid hzs
    have HM := Lib.hid hm
    have HO := Lib.hid ho
    clear hk ho hzs hm
    by_cases hlt : k < n
    · have hki : (k : Int) < (n : Int) := by omega
      have e1 : S[k]? = some (S[k]'(by rw [HLEN.out]; exact hlt)) := List.getElem?_eq_getElem _
      generalize S[k]'(by rw [HLEN.out]; exact hlt) = x at e1
      have hmx := List.mem_of_getElem? e1
      have HPC : Hid (pieceM s S k = (if 0 < k then [⟨#[]⟩] else []) ++ diagM s x.dg) := Lib.hid (by unfold pieceM; rw [e1])
      obtain ⟨b1, o1, hA1, hb1, hc1⟩ := (HRA.out.below hB (Nat.le_refl _)) k _ e1
      subst hA1
      have hfx := HF.out x hmx
      have hox := HOK.out x hmx
      have hcx := HC.out x hmx
      have hdl := diagM_len s x.dg
      have hfc := hfx.2.1
      have HFX := Lib.hid hfx
      have HOX := Lib.hid hox
      have HCX := Lib.hid hcx
      obtain ⟨L, hL⟩ : ∃ L, diagM s x.dg = L := ⟨_, rfl⟩
      have HLD := Lib.hid hL
      rw [hL] at hdl
      obtain ⟨q, hq⟩ : ∃ q, L.length = q := ⟨_, rfl⟩
      rw [hq] at hdl
      have HQ := Lib.hid hq
      have hq3 : 3 ≤ q ∧ q ≤ 23 := by omega
      clear hdl hfc hL hq
      have y0 : wr.cell? ⟨b1, o1 + k * 5, none⟩ = some (.int .i64 x.dg.code) := by simpa using hc1 0 _ rfl
      have y1 : wr.cell? ⟨b1, o1 + k * 5 + 1, none⟩ = some (.int .i64 x.dg.at_) := hc1 1 _ rfl
      have y2 : wr.cell? ⟨b1, o1 + k * 5 + 2, none⟩ = some (.int .i64 x.dg.fin) := hc1 2 _ rfl
      have y3 : wr.cell? ⟨b1, o1 + k * 5 + 3, none⟩ = some (.string x.dg.text) := hc1 3 _ rfl
      have y4 : wr.cell? ⟨b1, o1 + k * 5 + 4, none⟩ = some (.slice x.A x.n x.c) := hc1 4 _ rfl
      obtain ⟨W3, hW3⟩ : ∃ W3, wr.alloc (.cells #[.int .i64 x.dg.code, .int .i64 x.dg.at_, .int .i64 x.dg.fin, .string x.dg.text, .slice x.A x.n x.c] 35) = W3 := ⟨_, rfl⟩
      have h3b : Below wr.heap.size wr W3 := by rw [← hW3]; exact below_alloc _ _
      have h3x : Blk W3 wr.heap.size 35 #[.int .i64 x.dg.code, .int .i64 x.dg.at_, .int .i64 x.dg.fin, .string x.dg.text, .slice x.A x.n x.c] := by rw [← hW3]; exact Blk.new wr _ _
      have H3X := Lib.hid h3x
      have HB3 := Lib.hid (HBr.out.trans (h3b.mono HBr.out.size))
      have HO3 := Lib.hid (HO.out.below h3b (fun g hg => (HO.out.lt g hg).2))
      have h3l := h3x.lt
      have HNE : Hid (some wr.heap.size ≠ u6.ownBlock) := Lib.hid (fun e => by have := (HO.out.lt _ e.symm).2; omega)
      have HDG := Lib.hid (fun (w' : World) (h : Below w.heap.size w w') => Diagnostic_any s x.dg x.A x.n x.c w' hs HFX.out HOX.out.1 HOX.out.2.1 HOX.out.2.2 (HTAB.out.below h) ((HCX.out.2.below h (Nat.le_refl _)).mono h.size) HCX.out.1)
      rw [HLD.out, HQ.out] at HDG
      clear h3b h3x hc1 e1 hB hmx hfx hox hcx
      by_cases hk0 : 0 < k
      · have hk0i : (0 : Int) < (k : Int) := by omega
        go_wp2_with (first | rw [hW3] | (at_builtin; go_must (refine wpList_append_S _ rfl (.tmp 21) (.tmp 22) _ rfl w2.heap.size 9 i0 _ 1 16 Tryz.underlying24 hi0 hz0 hz1 hz2 rfl u6 m zs rfl (HO3.out.alloc _) ⟨W3.heap.size, 0, none⟩ 1 1 [.string ⟨#[]⟩] rfl rfl (news_one _ _ _ (by go_simp)) (by simp [Value.oneCell']) (by simp only [maxLen]; omega) (by omega) (by simp; omega) ?_); intro v' w4 hown hgrow hat; have hx4 := (H3X.out.alloc (.cells #[.string ⟨#[]⟩] 9)).grown hgrow HNE.out; have c0 : w4.cell? ⟨wr.heap.size, 0, none⟩ = some (.int .i64 x.dg.code) := hx4.cell 0; have c1 : w4.cell? ⟨wr.heap.size, 1, none⟩ = some (.int .i64 x.dg.at_) := hx4.cell 1; have c2 : w4.cell? ⟨wr.heap.size, 2, none⟩ = some (.int .i64 x.dg.fin) := hx4.cell 2; have c3 : w4.cell? ⟨wr.heap.size, 3, none⟩ = some (.string x.dg.text) := hx4.cell 3; have c4 : w4.cell? ⟨wr.heap.size, 4, none⟩ = some (.slice x.A x.n x.c) := hx4.cell 4))
        have HOC : Hid (OwnS w4 w2.heap.size 9 1 v' (m + 1) (zs ++ [.string ⟨#[]⟩])) := Lib.hid hown
        have HBC : Hid (Below w2.heap.size w2 w4) := Lib.hid (Below.grown (HB3.out.alloc HB3.out.size _) hgrow (by have := HB3.out.size; simp; omega) (fun g hg => (HO3.out.lt g hg).1))
        have hbc := HBC.out.size
        clear hown hgrow hat hx4 c0 c1 c2 c3 c4
        refine (HDG.out _ (HB2.out.trans (HBC.out.mono HB2.out.size))).mono ?_
        rintro e w5 ⟨⟨v5, rfl, ho5⟩, hb5⟩
        obtain ⟨g5, off5, cap5, rfl, p1, p2, p3, p4, p5⟩ := ho5.form (by omega)
        have HP5 := Lib.hid p5
        have HO5 := Lib.hid (HOC.out.below hb5 (fun g hg => (HOC.out.lt g hg).2))
        have HB5 := Lib.hid (HBC.out.trans (hb5.mono HBC.out.size))
        have hb5s := hb5.size
        clear ho5 hb5 p5
        go_wp2_with (at_builtin; go_must (refine wpList_append_S _ rfl (.tmp 24) (.tmp 27) _ rfl w2.heap.size 9 i0 _ 1 16 Tryz.underlying24 hi0 hz0 hz1 hz2 rfl v' (m + 1) (zs ++ [.string ⟨#[]⟩]) rfl HO5.out ⟨g5, off5, none⟩ q cap5 (strV L) rfl (by rw [Nat.mul_one, ← HQ.out]; simp [strV]) (fun j u hj => by rw [Addr.add_lit]; exact HP5.out j u hj) (fun u hu => by obtain ⟨b, -, rfl⟩ := List.mem_map.1 hu; rfl) (by simp only [maxLen]; omega) (by omega) (by omega) ?_); intro v6 w6 hown6 hgrow6 hat6)
        go_roundg (gk - 1)
        case measure => have := HK.out; omega
        case rel =>
          refine ⟨k + 1, by have := HK.out; omega, by go_num, Below.grown HB5.out hgrow6 HB5.out.size (fun g hg => (HO5.out.lt g hg).1), ?_⟩
          have e8 : strV (outK s S (k + 1)) = (zs ++ [.string ⟨#[]⟩]) ++ strV L := by
            rw [outK_succ, HPC.out, HLD.out]
            unfold strV
            rw [List.map_append, show List.map Value.string (outK s S k) = zs from HZS.out]
            simp [hk0]
          have e9 : (outK s S (k + 1)).length = (m + 1) + q := by
            rw [outK_succ, HPC.out, HLD.out, List.length_append, List.length_append, HM.out, HQ.out]
            simp [hk0]; omega
          rw [e8, e9]
          exact hown6
      · have hk0i : ¬ (0 : Int) < (k : Int) := by omega
        have c0 : W3.cell? ⟨wr.heap.size, 0, none⟩ = some (.int .i64 x.dg.code) := H3X.out.cell 0
        have c1 : W3.cell? ⟨wr.heap.size, 1, none⟩ = some (.int .i64 x.dg.at_) := H3X.out.cell 1
        have c2 : W3.cell? ⟨wr.heap.size, 2, none⟩ = some (.int .i64 x.dg.fin) := H3X.out.cell 2
        have c3 : W3.cell? ⟨wr.heap.size, 3, none⟩ = some (.string x.dg.text) := H3X.out.cell 3
        have c4 : W3.cell? ⟨wr.heap.size, 4, none⟩ = some (.slice x.A x.n x.c) := H3X.out.cell 4
        go_wp2_with (rw [hW3])
        have HOC : Hid (OwnS W3 w2.heap.size 9 1 u6 m zs) := Lib.hid HO3.out
        have HBC : Hid (Below w2.heap.size w2 W3) := Lib.hid HB3.out
        have hbc := HBC.out.size
        clear c0 c1 c2 c3 c4 hW3
        refine (HDG.out _ (HB2.out.trans (HBC.out.mono HB2.out.size))).mono ?_
        rintro e w5 ⟨⟨v5, rfl, ho5⟩, hb5⟩
        obtain ⟨g5, off5, cap5, rfl, p1, p2, p3, p4, p5⟩ := ho5.form (by omega)
        have HP5 := Lib.hid p5
        have HO5 := Lib.hid (HOC.out.below hb5 (fun g hg => (HOC.out.lt g hg).2))
        have HB5 := Lib.hid (HBC.out.trans (hb5.mono HBC.out.size))
        have hb5s := hb5.size
        clear ho5 hb5 p5
        go_wp2_with (at_builtin; go_must (refine wpList_append_S _ rfl (.tmp 24) (.tmp 27) _ rfl w2.heap.size 9 i0 _ 1 16 Tryz.underlying24 hi0 hz0 hz1 hz2 rfl u6 m zs rfl HO5.out ⟨g5, off5, none⟩ q cap5 (strV L) rfl (by rw [Nat.mul_one, ← HQ.out]; simp [strV]) (fun j u hj => by rw [Addr.add_lit]; exact HP5.out j u hj) (fun u hu => by obtain ⟨b, -, rfl⟩ := List.mem_map.1 hu; rfl) (by simp only [maxLen]; omega) (by omega) (by omega) ?_); intro v6 w6 hown6 hgrow6 hat6)
        go_roundg (gk - 1)
        case measure => have := HK.out; omega
        case rel =>
          refine ⟨k + 1, by have := HK.out; omega, by go_num, Below.grown HB5.out hgrow6 HB5.out.size (fun g hg => (HO5.out.lt g hg).1), ?_⟩
          have e8 : strV (outK s S (k + 1)) = zs ++ strV L := by
            rw [outK_succ, HPC.out, HLD.out]
            unfold strV
            rw [List.map_append, show List.map Value.string (outK s S k) = zs from HZS.out]
            simp [hk0]
          have e9 : (outK s S (k + 1)).length = m + q := by
            rw [outK_succ, HPC.out, HLD.out, List.length_append, List.length_append, HM.out, HQ.out]
            simp [hk0]
          rw [e8, e9]
          exact hown6
    · have hkn : k = n := by omega
      subst hkn
      go_wp2_with fail
      go_ret
      refine ⟨⟨_, rfl, ?_⟩, HB2.out.trans (HBr.out.mono HB2.out.size)⟩
      rw [HM.out, HZS.out]
      exact HO.out.mono HB2.out.size
end Go.Proofs.YtinpopjnnljkhaaGreatDoor
/- The order of the law: plain. -/
namespace Go.Proofs.YtinpopjnnljkhaaGreatDoor
open Go.RowKit Go.Sort

theorem ltR_irrefl (x : Rd) : ltR x x = false := ltR_swo.irrefl x
theorem ltR_asymm {x y : Rd} (h : ltR x y = true) (h' : ltR y x = true) : False := by
  have := ltR_swo.trans x y x h h'
  rw [ltR_irrefl] at this
  cases this
/-- Each stands where its number says. -/
def Tagged (xs : List Rd) : Prop := ∀ (k : Nat) (x : Rd), xs[k]? = some x → x.tag = k
theorem Tagged.up {xs : List Rd} (h : Tagged xs) : TagUp 1 xs.toArray.size xs.toArray := by
  intro p q hpq h1 hq
  have hq' : q < xs.length := by simpa using hq
  have e1 := h p xs[p] (List.getElem?_eq_getElem (by omega))
  have e2 := h q xs[q] (List.getElem?_eq_getElem hq')
  have g : ∀ i (hi : i < xs.length), xs.toArray[i]! = xs[i] := fun i hi => by simp [hi]
  rw [g p (by omega), g q hq', e1, e2]
  exact hpq
/-- Numbers that have come when i of the sorted row are done. -/
def doneM (S : List Rd) (i : Nat) : List Nat := (S.take i).map Rd.tag
theorem doneM_succ {S : List Rd} {i : Nat} {z : Rd} (h : S[i]? = some z) : doneM S (i + 1) = doneM S i ++ [z.tag] := by
  unfold doneM
  rw [List.take_add_one, h]
  simp
structure SortedOf (xs S : List Rd) : Prop where
  perm : S.Perm xs
  up : ∀ (i j : Nat) (x y : Rd), i < j → S[i]? = some x → S[j]? = some y → ltR x y = true
theorem sortedOf {xs : List Rd} (h : Tagged xs) : SortedOf xs (srtD xs.toArray).toList := by
  obtain ⟨h1, h2, h3⟩ := srtD_size _ h.up
  refine ⟨by simpa using h2, fun i j x y hij hi hj => ?_⟩
  have hjl : j < (srtD xs.toArray).size := by have := (List.getElem?_eq_some_iff.1 hj).1; simpa using this
  have g : ∀ k z, (srtD xs.toArray).toList[k]? = some z → (srtD xs.toArray)[k]! = z := fun k z hk => by
    obtain ⟨hl, he⟩ := List.getElem?_eq_some_iff.1 hk
    rw [getElem!_pos _ k (by simpa using hl)]
    simpa using he
  have := h3 i j hij (by omega)
  rw [g i x hi, g j y hj] at this
  exact this
theorem SortedOf.at {xs S : List Rd} (h : SortedOf xs S) (ht : Tagged xs) {z : Rd} (hz : z ∈ S) : xs[z.tag]? = some z := by
  obtain ⟨j, hj, e⟩ := List.getElem_of_mem (h.perm.mem_iff.1 hz)
  have e1 : xs[j]? = some z := by rw [List.getElem?_eq_getElem hj, e]
  have := ht j z e1
  rw [this]
  exact e1
theorem SortedOf.fresh {xs S : List Rd} (h : SortedOf xs S) (ht : Tagged xs) {i : Nat} {z : Rd} (hz : S[i]? = some z) : z.tag ∉ doneM S i := by
  intro hm
  unfold doneM at hm
  obtain ⟨u, hu, e⟩ := List.mem_map.1 hm
  obtain ⟨p, hp, e1⟩ := List.getElem_of_mem hu
  rw [List.getElem_take] at e1
  have hpi : p < i := by simp at hp; omega
  have hpl : p < S.length := by simp at hp; omega
  have e2 : S[p]? = some u := by rw [List.getElem?_eq_getElem hpl, e1]
  have h1 := h.up p i u z hpi e2 hz
  have g1 := h.at ht (List.mem_of_getElem? e2)
  have g2 := h.at ht (List.mem_of_getElem? hz)
  rw [e, g2] at g1
  cases g1
  rw [ltR_irrefl] at h1
  cases h1
/-- The least of those that have not come is the next of the sorted row. -/
theorem SortedOf.least {xs S : List Rd} (h : SortedOf xs S) (ht : Tagged xs) {i m : Nat} {z y : Rd} (hz : S[i]? = some z) (hy : xs[m]? = some y) (hm : m ∉ doneM S i) (hall : ∀ j x, xs[j]? = some x → j ∉ doneM S i → j = m ∨ ltR y x = true) : m = z.tag ∧ y = z := by
  have g := h.at ht (List.mem_of_getElem? hz)
  have hmy := ht m y hy
  rcases hall z.tag z g (h.fresh ht hz) with e | e
  · rw [← e, g] at hy
    cases hy
    exact ⟨e.symm, rfl⟩
  · exfalso
    obtain ⟨p, hp, e1⟩ := List.getElem_of_mem (h.perm.mem_iff.2 (List.mem_of_getElem? hy))
    have e2 : S[p]? = some y := by rw [List.getElem?_eq_getElem hp, e1]
    rcases Nat.lt_trichotomy p i with hpi | hpi | hpi
    · refine hm ?_
      unfold doneM
      refine List.mem_map.2 ⟨y, ?_, hmy⟩
      refine List.mem_of_getElem? (i := p) ?_
      rw [List.getElem?_take, if_pos hpi]
      exact e2
    · subst hpi
      rw [hz] at e2
      cases e2
      rw [ltR_irrefl] at e
      cases e
    · exact ltR_asymm e (h.up i p z y hpi hz e2)
/-- What the search has found in the first k. -/
def FoundM (xs S : List Rd) (i k : Nat) (r : Int) : Prop :=
  (r = -1 ∧ ∀ j, j < k → j ∈ doneM S i) ∨ ∃ m y, r = (m : Nat) ∧ m < k ∧ xs[m]? = some y ∧ m ∉ doneM S i ∧ ∀ j x, j < k → xs[j]? = some x → j ∉ doneM S i → j = m ∨ ltR y x = true
theorem found_used {xs S : List Rd} {i k : Nat} {r : Int} (h : FoundM xs S i k r) (hu : k ∈ doneM S i) : FoundM xs S i (k + 1) r := by
  rcases h with ⟨rfl, h⟩ | ⟨m, y, rfl, hm, hy, hn, h⟩
  · refine .inl ⟨rfl, fun j hj => ?_⟩
    by_cases hjk : j = k
    · rw [hjk]; exact hu
    · exact h j (by omega)
  · refine .inr ⟨m, y, rfl, by omega, hy, hn, fun j x hj hx hd => ?_⟩
    by_cases hjk : j = k
    · subst hjk; exact absurd hu hd
    · exact h j x (by omega) hx hd
theorem found_first {xs S : List Rd} {i k : Nat} {x : Rd} (h : FoundM xs S i k (-1)) (hx : xs[k]? = some x) (hu : k ∉ doneM S i) : FoundM xs S i (k + 1) (k : Nat) := by
  rcases h with ⟨-, h⟩ | ⟨m, y, e, -⟩
  · refine .inr ⟨k, x, rfl, by omega, hx, hu, fun j z hj hz hd => ?_⟩
    by_cases hjk : j = k
    · exact .inl hjk
    · exact absurd (h j (by omega)) hd
  · omega
theorem found_ahead {xs S : List Rd} {i k m : Nat} {x y : Rd} (h : FoundM xs S i k (m : Nat)) (hx : xs[k]? = some x) (hy : xs[m]? = some y) (hu : k ∉ doneM S i) (ha : ahD x y) : FoundM xs S i (k + 1) (k : Nat) := by
  rcases h with ⟨e, -⟩ | ⟨m', y', e, hm, hy', hn, h⟩
  · omega
  · have : m' = m := by omega
    subst this
    rw [hy] at hy'
    cases hy'
    have hxy : ltR x y = true := decide_eq_true (.inl ha)
    refine .inr ⟨k, x, rfl, by omega, hx, hu, fun j z hj hz hd => ?_⟩
    by_cases hjk : j = k
    · exact .inl hjk
    · refine .inr ?_
      rcases h j z (by omega) hz hd with e2 | e2
      · subst e2
        rw [hy] at hz
        cases hz
        exact hxy
      · exact ltR_swo.trans _ _ _ hxy e2
theorem found_behind {xs S : List Rd} {i k m : Nat} {x y : Rd} (ht : Tagged xs) (h : FoundM xs S i k (m : Nat)) (hx : xs[k]? = some x) (hy : xs[m]? = some y) (ha : ¬ ahD x y) : FoundM xs S i (k + 1) (m : Nat) := by
  rcases h with ⟨e, -⟩ | ⟨m', y', e, hm, hy', hn, h⟩
  · omega
  · have : m' = m := by omega
    subst this
    rw [hy] at hy'
    cases hy'
    refine .inr ⟨m', y, rfl, by omega, hy, hn, fun j z hj hz hd => ?_⟩
    by_cases hjk : j = k
    · subst hjk
      rw [hx] at hz
      cases hz
      refine .inr (decide_eq_true (.inr ⟨ha, ?_⟩))
      rw [ht _ _ hy, ht _ _ hx]
      omega
    · exact h j z (by omega) hz hd
theorem found_end {xs S : List Rd} (hs : SortedOf xs S) (ht : Tagged xs) {i n : Nat} {r : Int} {z : Rd} (hl : xs.length = n) (hz : S[i]? = some z) (h : FoundM xs S i n r) : r = (z.tag : Nat) := by
  have g := hs.at ht (List.mem_of_getElem? hz)
  have hzl : z.tag < n := by rw [← hl]; exact (List.getElem?_eq_some_iff.1 g).1
  rcases h with ⟨rfl, h⟩ | ⟨m, y, rfl, hm, hy, hn, h⟩
  · exact absurd (h z.tag hzl) (hs.fresh ht hz)
  · have := (hs.least ht hz hy hn (fun j x hx hd => h j x (by rw [← hl]; exact (List.getElem?_eq_some_iff.1 hx).1) hx hd)).1
    rw [this]
/-- The lines that are left when i are done. -/
def restM (s : ByteArray) (S : List Rd) (i n : Nat) : List ByteArray := (List.range' i (n - i)).flatMap (pieceM s S)
theorem restM_zero (s : ByteArray) (S : List Rd) (n : Nat) : restM s S 0 n = outK s S n := by
  unfold restM outK
  rw [Nat.sub_zero, List.range_eq_range']
theorem restM_succ (s : ByteArray) (S : List Rd) {i n : Nat} (h : i < n) : restM s S i n = pieceM s S i ++ restM s S (i + 1) n := by
  unfold restM
  rw [show n - i = (n - (i + 1)) + 1 by omega, List.range'_succ, List.flatMap_cons]
theorem restM_end (s : ByteArray) (S : List Rd) (n : Nat) : restM s S n n = [] := by simp [restM]
theorem at_up {xs S : List Rd} (h : SortedOf xs S) {i : Nat} {x y : Rd} (hx : S[i]? = some x) (hy : S[i + 1]? = some y) : ¬ y.dg.at_ < x.dg.at_ := by
  have := h.up i (i + 1) x y (by omega) hx hy
  unfold ltR ahD at this
  simp only [decide_eq_true_eq] at this
  omega
theorem row_drop {w : World} {B : Nat} {A : Option Addr} {L : List ByteArray} (h : RowAt 1 strCells w B A L) {cap k : Nat} (hc : L.length ≤ cap) (hk : k ≤ L.length) : RowAt 1 strCells w B (if cap = k then A else A.map (·.add (k * 1))) (L.drop k) := by
  intro j x hj
  rw [List.getElem?_drop] at hj
  have hjl := (List.getElem?_eq_some_iff.1 hj).1
  rw [if_neg (by omega)]
  obtain ⟨b, o, hA, hb, hcs⟩ := h _ _ hj
  subst hA
  refine ⟨b, o + k * 1, by simp [Addr.add], hb, fun q u hq => ?_⟩
  have := hcs q u hq
  rw [show o + k * 1 + j * 1 + q = o + (k + j) * 1 + q by omega]
  exact this
theorem row_take {w : World} {B : Nat} {A : Option Addr} {L : List ByteArray} (h : RowAt 1 strCells w B A L) {cap k : Nat} (hc : L.length ≤ cap) : RowAt 1 strCells w B (if cap = 0 then A else A.map (·.add 0)) (L.take k) := by
  intro j x hj
  have hjk : L[j]? = some x := by
    rw [List.getElem?_take] at hj
    split at hj
    · exact hj
    · cases hj
  have hjl := (List.getElem?_eq_some_iff.1 hjk).1
  rw [if_neg (by omega)]
  obtain ⟨b, o, hA, hb, hcs⟩ := h _ _ hjk
  subst hA
  exact ⟨b, o, by simp [Addr.add], hb, hcs⟩
end Go.Proofs.YtinpopjnnljkhaaGreatDoor
/- Maps as association lists, keyed by strings or by ints: look-up, store, range. No program is named here. -/
namespace Go.Proofs.YtinpopjnnljkhaaGreatDoor
open Go.RowKit
open Go.ChangeMaps (setBlock)

/-- Where a key stands in an association list, and its value. -/
def posM {K : Type} [DecidableEq K] (k : K) : List (K × Value) → Nat → Option (Nat × Value)
  | [], _ => none
  | x :: m, i => if k = x.1 then some (i, x.2) else posM k m (i + 1)

def lookM {K : Type} [DecidableEq K] (m : List (K × Value)) (k : K) : Option Value := (posM k m 0).map (·.2)

/-- What a kind of keys has to keep. -/
structure KeyK (K : Type) [DecidableEq K] where
  con : K → Value
  desc : TypeDesc
  same : ∀ k j, Instr.sameNow desc (con k) (con j) = some (decide (k = j))
  check : ∀ (P : Program) (kt : TypeId) (b : Bool) (n : Nat) (k : K) (w : World), P.underlying kt = some desc → (Instr.checkKey b (n + 1) kt (con k)).run P w = .ok () w
  bits : ∀ k, Instr.sameBits 10000 (con k) (con k) = true

theorem ba_beq (k j : ByteArray) : (k == j) = decide (k = j) := by
  obtain ⟨a⟩ := k
  obtain ⟨b⟩ := j
  show (a == b) = _
  rw [Bool.eq_iff_iff]
  simp

def strK : KeyK ByteArray where
  con := .string
  desc := .string
  same k j := by simp [Instr.sameNow, ba_beq]
  check P kt b n k w h := by simp [Instr.checkKey, run_underlying h]
  bits k := by simp [Instr.sameBits, ba_beq]

def intK : KeyK Int where
  con := .int .i64
  desc := .int .i64
  same k j := by simp [Instr.sameNow]; rw [Bool.eq_iff_iff]; simp
  check P kt b n k w h := by simp [Instr.checkKey, run_underlying h]
  bits k := by simp [Instr.sameBits]

section
variable {K : Type} [DecidableEq K] {KK : KeyK K}

theorem posM_shift (k : K) : ∀ (m : List (K × Value)) (i j : Nat), posM k m (i + j) = (posM k m j).map fun x => (i + x.1, x.2)
  | [], i, j => rfl
  | x :: m, i, j => by
    unfold posM
    by_cases h : k = x.1
    · simp [h]
    · rw [if_neg h, if_neg h, Nat.add_assoc, posM_shift k m i (j + 1)]

theorem findNow_am (k : K) : ∀ (es : List MapEntry) (m : List (K × Value)) (i : Nat), es.map (fun e => (e.key, e.val)) = m.map (fun x => (KK.con x.1, x.2)) → Instr.findNow KK.desc (KK.con k) es i = some (posM k m i)
  | [], m, i, h => by
    cases m with
    | nil => rfl
    | cons x m => simp at h
  | e :: es, m, i, h => by
    cases m with
    | nil => simp at h
    | cons x m =>
      simp only [List.map_cons, List.cons.injEq, Prod.mk.injEq] at h
      obtain ⟨⟨h1, h2⟩, h3⟩ := h
      unfold Instr.findNow posM
      rw [h1, KK.same]
      by_cases hk : k = x.1
      · simp [hk, h2]
      · simp only [hk, decide_false, if_false]
        exact findNow_am k es m (i + 1) h3

/-- Block r is a map that holds m, in the order of the stores. -/
def AMap (KK : KeyK K) (w : World) (r : Nat) (m : List (K × Value)) : Prop :=
  ∃ es clock, w.heap[r]? = some (.map es clock) ∧ es.toList.map (fun e => (e.key, e.val)) = m.map (fun x => (KK.con x.1, x.2)) ∧ (∀ e ∈ es.toList, e.born < clock) ∧ (es.toList.map (·.born)).Nodup

variable {w w' : World} {r : Nat} {m : List (K × Value)}
theorem AMap.keep (h : AMap KK w r m) (hk : w'.heap[r]? = w.heap[r]?) : AMap KK w' r m := by
  obtain ⟨es, clock, h1, h2⟩ := h
  exact ⟨es, clock, hk.trans h1, h2⟩
theorem AMap.lt (h : AMap KK w r m) : r < w.heap.size := by
  obtain ⟨es, clock, h1, _⟩ := h
  exact (Array.getElem?_eq_some_iff.1 h1).1
theorem AMap.alloc (h : AMap KK w r m) (o : Obj) : AMap KK (w.alloc o) r m := h.keep (Below.heap_alloc w o r h.lt)
theorem AMap.drew (h : AMap KK w r m) : AMap KK w.drew r m := h
theorem AMap.drewN (h : AMap KK w r m) (n : Nat) : AMap KK (w.drewN n) r m := h
theorem AMap.setCell (h : AMap KK w r m) {p : Addr} (hp : r ≠ p.block) (u : Value) : AMap KK (w.setCell p u) r m := h.keep (Below.heap_setCell w p u r hp)
theorem AMap.below {B : Nat} (h : AMap KK w r m) (hb : Below B w w') (hg : r < B) : AMap KK w' r m := h.keep (hb.block r hg)
theorem AMap.grown {row : Option Nat} (h : AMap KK w r m) (hb : w.grownBy w' row) (hg : some r ≠ row) : AMap KK w' r m := h.keep (hb.block r h.lt hg)
theorem AMap.since {S : Nat → Prop} (h : AMap KK w r m) (hs : Since S w w') (hg : ¬ S r) : AMap KK w' r m := h.keep (hs.block r h.lt hg)
theorem AMap.made (w : World) : AMap KK (w.alloc (.map #[] 0)) w.heap.size [] := ⟨#[], 0, heap_alloc_new w _, rfl, by simp, by simp⟩

variable {P : Program} {t kt et : TypeId}

theorem run_findKey_am (hk : P.underlying kt = some KK.desc) (k : K) (es : List MapEntry) (h : es.map (fun e => (e.key, e.val)) = m.map (fun x => (KK.con x.1, x.2))) (w : World) :
    (Instr.findKey kt (KK.con k) es).run P w = .ok (posM k m 0) w := by
  simp [Instr.findKey, run_underlying hk, findNow_am k es m 0 h]

/-- 'm[k]' -/
theorem run_lookup_am (ht : P.underlying t = some (.map kt et)) (hk : P.underlying kt = some KK.desc) {z : Value} (hz : ∀ w, (zeroValue et).run P w = .ok z w) (h : AMap KK w r m) (k : K) :
    (Instr.lookup t (.map (some r)) (KK.con k) false).run P w = .ok ((lookM m k).getD z) w := by
  obtain ⟨es, clock, h1, h2, h3⟩ := h
  simp [Instr.lookup, run_underlying ht, MapKept.run_getObj_map h1, KK.check _ _ _ _ _ _ hk, run_findKey_am hk k es.toList h2]
  unfold lookM
  cases posM k m 0 with
  | none => simp [hz]
  | some x => simp

/-- 'v, ok := m[k]' -/
theorem run_lookupOk_am (ht : P.underlying t = some (.map kt et)) (hk : P.underlying kt = some KK.desc) {z : Value} (hz : ∀ w, (zeroValue et).run P w = .ok z w) (h : AMap KK w r m) (k : K) :
    (Instr.lookup t (.map (some r)) (KK.con k) true).run P w = .ok (.tuple #[(lookM m k).getD z, .bool (lookM m k).isSome]) w := by
  obtain ⟨es, clock, h1, h2, h3⟩ := h
  simp [Instr.lookup, run_underlying ht, MapKept.run_getObj_map h1, KK.check _ _ _ _ _ _ hk, run_findKey_am hk k es.toList h2]
  unfold lookM
  cases posM k m 0 with
  | none => simp [hz]
  | some x => simp

/-- What a store makes of an association list. -/
def setM (m : List (K × Value)) (k : K) (v : Value) : List (K × Value) :=
  match posM k m 0 with
  | none => m ++ [(k, v)]
  | some (i, _) => m.modify i fun _ => (k, v)

theorem posM_at (k : K) : ∀ (m : List (K × Value)) (j i : Nat) (v : Value), posM k m j = some (i, v) → ∃ n, i = j + n ∧ m[n]? = some (k, v)
  | [], j, i, v, h => by cases h
  | x :: m, j, i, v, h => by
    unfold posM at h
    by_cases hk : k = x.1
    · rw [if_pos hk] at h
      cases h
      exact ⟨0, rfl, by rw [hk]; rfl⟩
    · rw [if_neg hk] at h
      obtain ⟨n, h1, h2⟩ := posM_at k m (j + 1) i v h
      exact ⟨n + 1, by omega, by simpa using h2⟩

theorem map_modify {α β : Type} (f : α → β) (g : α → α) (g' : β → β) (h : ∀ x, f (g x) = g' (f x)) : ∀ (l : List α) (i : Nat), (l.modify i g).map f = (l.map f).modify i g'
  | [], i => by simp
  | x :: l, 0 => by simp [List.modify_zero_cons, h]
  | x :: l, i + 1 => by simp [List.modify_succ_cons, map_modify f g g' h l i]

/-- A store; only block r has turned. -/
theorem run_mapUpdate_am (ht : P.underlying t = some (.map kt et)) (hk : P.underlying kt = some KK.desc) (h : AMap KK w r m) (k : K) (v : Value) :
    ∃ w2, (Instr.mapUpdate t (.map (some r)) (KK.con k) v).run P w = .ok () w2 ∧ AMap KK w2 r (setM m k v) ∧ w.grownBy w2 (some r) ∧ w2.heap.size = w.heap.size := by
  obtain ⟨es, clock, h1, h2, h3, h4⟩ := h
  have hlt : r < w.heap.size := (Array.getElem?_eq_some_iff.1 h1).1
  have hgr : ∀ o : Obj, w.grownBy { w with heap := w.heap.setIfInBounds r o } (some r) := fun o =>
    ⟨rfl, rfl, rfl, by simp, fun i _ hi => by simp [Array.getElem?_setIfInBounds]; intro e; exact absurd (by rw [e]) hi⟩
  have hat : ∀ o : Obj, ({ w with heap := w.heap.setIfInBounds r o } : World).heap[r]? = some o := fun o => by simp [hlt]
  unfold setM
  cases hx : posM k m 0 with
  | none =>
    refine ⟨{ w with heap := w.heap.setIfInBounds r (.map (es.push { key := KK.con k, val := v, born := clock }) (clock + 1)) }, ?_, ⟨_, _, hat _, ?_, ?_, ?_⟩, hgr _, by simp⟩
    · simp [Instr.mapUpdate, run_underlying ht, MapKept.run_getObj_map h1, KK.check _ _ _ _ _ _ hk, run_findKey_am hk k es.toList h2, hx, MapKept.run_setObj_map _ h1]
    · simp [h2]
    · intro e he
      simp at he
      rcases he with he | rfl
      · have := h3 e (by simpa using he)
        omega
      · simp
    · simp only [Array.toList_push, List.map_append, List.map_cons, List.map_nil]
      rw [List.nodup_append]
      refine ⟨h4, by simp, fun a ha b hb => ?_⟩
      simp at hb
      subst hb
      simp only [List.mem_map] at ha
      obtain ⟨e, he, rfl⟩ := ha
      have := h3 e he
      omega
  | some x =>
    obtain ⟨i, v0⟩ := x
    obtain ⟨n, hn, hmn⟩ := posM_at k m 0 i v0 hx
    have hin : i = n := by omega
    subst hin
    have hen : (es.toList.map fun e => (e.key, e.val))[i]? = some (KK.con k, v0) := by rw [h2]; simp [hmn]
    rw [List.getElem?_map] at hen
    cases hei : es.toList[i]? with
    | none => rw [hei] at hen; cases hen
    | some e0 =>
      rw [hei] at hen
      simp at hen
      have hei' : es[i]? = some e0 := by simpa using hei
      refine ⟨{ w with heap := w.heap.setIfInBounds r (.map (es.modify i fun e => { e with key := KK.con k, val := v }) clock) }, ?_, ⟨_, _, hat _, ?_, ?_, ?_⟩, hgr _, by simp⟩
      · simp [Instr.mapUpdate, run_underlying ht, MapKept.run_getObj_map h1, KK.check _ _ _ _ _ _ hk, run_findKey_am hk k es.toList h2, hx, MapKept.run_setObj_map _ h1, Instr.keyThatStays, hei', hen.1, KK.bits]
      · rw [Array.toList_modify, map_modify (fun e : MapEntry => (e.key, e.val)) _ (fun _ => (KK.con k, v)) (fun _ => rfl), h2, map_modify (fun x : K × Value => (KK.con x.1, x.2)) (fun _ => (k, v)) (fun _ => (KK.con k, v)) (fun _ => rfl)]
      · have hb := map_modify (fun e : MapEntry => e.born) (fun e => { e with key := KK.con k, val := v }) id (fun _ => rfl) es.toList i
        intro e he
        rw [Array.toList_modify] at he
        have hm : e.born ∈ ((es.toList.modify i fun e => { e with key := KK.con k, val := v }).map fun e : MapEntry => e.born) := List.mem_map.2 ⟨e, he, rfl⟩
        rw [hb] at hm
        simp at hm
        obtain ⟨e1, he1, h5⟩ := hm
        rw [← h5]
        exact h3 e1 (by simpa using he1)
      · rw [Array.toList_modify, map_modify (fun e : MapEntry => e.born) (fun e => { e with key := KK.con k, val := v }) id (fun _ => rfl)]
        simpa using h4

/-- An iterator over the map in block r; what it has not handed out. -/
def AIter (KK : KeyK K) (w : World) (r b : Nat) (m : List (K × Value)) (left : List (Value × Value)) : Prop :=
  ∃ es clock seen c0, w.heap[r]? = some (.map es clock) ∧ es.toList.map (fun e => (e.key, e.val)) = m.map (fun x => (KK.con x.1, x.2)) ∧ (∀ e ∈ es.toList, e.born < clock) ∧ (es.toList.map (·.born)).Nodup ∧
    w.heap[b]? = some (.mapIter (some r) clock seen c0) ∧ clock ≤ c0 ∧ left = (leftOf es seen).toList.map fun e => (e.key, e.val)

theorem AIter.map_ {b : Nat} {left : List (Value × Value)} (h : AIter KK w r b m left) : AMap KK w r m := by
  obtain ⟨es, clock, seen, c0, h1, h2, h3, h4, -⟩ := h
  exact ⟨es, clock, h1, h2, h3, h4⟩

theorem AIter.keep {b : Nat} {left : List (Value × Value)} (h : AIter KK w r b m left) (hr : w'.heap[r]? = w.heap[r]?) (hb : w'.heap[b]? = w.heap[b]?) : AIter KK w' r b m left := by
  obtain ⟨es, clock, seen, c0, h1, h2, h3, h4, h5, h6⟩ := h
  exact ⟨es, clock, seen, c0, hr.trans h1, h2, h3, h4, hb.trans h5, h6⟩

theorem run_range_am (ht : P.underlying t = some (.map kt et)) (h : AMap KK w r m) :
    ∃ w', (Instr.range t (.map (some r))).run P w = .ok (.pointer (some ⟨w.heap.size, 0, none⟩)) w' ∧ AIter KK w' r w.heap.size m (m.map fun x => (KK.con x.1, x.2)) ∧ Below w.heap.size w w' ∧ w'.heap.size = w.heap.size + 1 := by
  obtain ⟨es, clock, h1, h2, h3, h4⟩ := h
  refine ⟨_, run_range_map w t kt et r es clock ht h1, ⟨es, clock, #[], clock, ?_, h2, h3, h4, heap_alloc_new w _, Nat.le_refl _, ?_⟩, below_alloc _ _, by simp⟩
  · exact (Below.heap_alloc w _ r (Array.getElem?_eq_some_iff.1 h1).1).trans h1
  · unfold leftOf
    rw [← h2, Array.toList_filter]
    congr 1
    exact (List.filter_eq_self.2 fun e _ => by simp).symm

theorem perm_filter_ne : ∀ (l : List MapEntry) (e : MapEntry), (l.map (·.born)).Nodup → e ∈ l → l.Perm (e :: l.filter fun x => !(x.born == e.born))
  | [], e, _, h => by cases h
  | x :: l, e, hn, h => by
    simp only [List.map_cons, List.nodup_cons] at hn
    rcases List.mem_cons.1 h with rfl | h
    · have hf : (l.filter fun x => !(x.born == e.born)) = l := by
        rw [List.filter_eq_self]
        intro y hy
        simp
        intro h1
        exact hn.1 (by rw [← h1]; exact List.mem_map.2 ⟨y, hy, rfl⟩)
      simp [hf]
    · have hne : x.born ≠ e.born := by
        intro h1
        exact hn.1 (by rw [h1]; exact List.mem_map.2 ⟨e, h, rfl⟩)
      have := perm_filter_ne l e hn.2 h
      have hx : (!(x.born == e.born)) = true := by simp [hne]
      rw [List.filter_cons, if_pos hx]
      exact (List.Perm.cons x this).trans (List.Perm.swap e x _)

/-- The step. -/
theorem run_next_am {b : Nat} {left : List (Value × Value)} (ty : TypeId) (h : AIter KK w r b m left) (hne : r ≠ b) :
    (left = [] ∧ (Instr.next (.pointer (some ⟨b, 0, none⟩)) false ty).run P w = .ok (.tuple #[.bool false]) w) ∨
    ∃ k v left' w', left.Perm ((k, v) :: left') ∧ (k, v) ∈ (m.map fun x => (KK.con x.1, x.2)) ∧ (Instr.next (.pointer (some ⟨b, 0, none⟩)) false ty).run P w = .ok (.tuple #[.bool true, k, v]) w' ∧
      AIter KK w' r b m left' ∧ Since (fun g => g = b) w w' ∧ w'.heap.size = w.heap.size ∧ (Instr.entry (.pointer (some ⟨b, 0, none⟩))).run P w' = .ok (.tuple #[k, v]) w' := by
  obtain ⟨es, clock, seen, c0, h1, h2, h3, h4, h5, h6, h7⟩ := h
  rcases run_next_at (P := P) w ty b r clock c0 seen es clock h5 h1 h3 h6 with ⟨h8, h9⟩ | ⟨e, he, w1, hw1, hrun⟩
  · left
    refine ⟨?_, h9⟩
    rw [h7]
    have : (leftOf es seen) = #[] := Array.eq_empty_of_size_eq_zero h8
    rw [this]
    rfl
  · right
    have hlt : b < w.heap.size := (Array.getElem?_eq_some_iff.1 h5).1
    have hs1 : Since (fun g => g = b) w w1 ∧ w1.heap = w.heap := by
      rcases hw1 with rfl | rfl
      · exact ⟨Since.refl _ _, rfl⟩
      · exact ⟨(Since.refl _ _).drew, rfl⟩
    have hheap : ∀ g o, g ≠ b → (setBlock w1 b o).heap[g]? = w.heap[g]? := by
      intro g o hg
      simp [setBlock, hs1.2, Ne.symm hg]
    have hmem := mem_left he
    have hr2 : (setBlock w1 b (.mapIter (some r) clock (seen.push e.born) clock)).heap[r]? = some (.map es clock) := (hheap r _ hne).trans h1
    have hb2 : (setBlock w1 b (.mapIter (some r) clock (seen.push e.born) clock)).heap[b]? = some (.mapIter (some r) clock (seen.push e.born) clock) := by
      simp [setBlock, hs1.2, hlt]
    refine ⟨e.key, e.val, (leftOf es (seen.push e.born)).toList.map fun e => (e.key, e.val), _, ?_, ?_, hrun, ⟨es, clock, seen.push e.born, clock, hr2, h2, h3, h4, hb2, Nat.le_refl _, rfl⟩, ?_, ?_, run_entry_at _ b r clock seen es clock e hb2 hr2 hmem.1 h4⟩
    · rw [h7]
      have hp := perm_filter_ne (leftOf es seen).toList e (by
        unfold leftOf
        rw [Array.toList_filter]
        exact List.Nodup.sublist (List.Sublist.map _ List.filter_sublist) h4) he
      have hl : (leftOf es (seen.push e.born)).toList = (leftOf es seen).toList.filter fun x => !(x.born == e.born) := by
        unfold leftOf
        rw [Array.toList_filter, Array.toList_filter, List.filter_filter]
        congr 1
        funext x
        rw [contains_push]
        cases seen.contains x.born <;> cases x.born == e.born <;> rfl
      rw [hl]
      exact hp.map _
    · rw [← h2]
      exact List.mem_map.2 ⟨e, hmem.1, rfl⟩
    · exact ⟨hs1.1.os, hs1.1.tape, hs1.1.output, by simp [setBlock, hs1.2], fun g _ hg => hheap g _ hg⟩
    · simp [setBlock, hs1.2]
end

end Go.Proofs.YtinpopjnnljkhaaGreatDoor
/- slices.Sort at ints, on a slice of the call's own. -/
namespace Go.Proofs.YtinpopjnnljkhaaGreatDoor
open Go.RowKit Go.Sort

abbrev iv (z : Int) : Value := .int .i64 z
abbrev ivs (l : List Int) : List Value := l.map (Value.int .i64)

theorem Sort_any (v : Value) (base n : Nat) (zs : List Int) (w : World) (h : OwnS w base 3 1 v n (ivs zs)) (hn : n ≤ 1000000) :
    Calls Tryz.prog 241 #[v] w fun e w' => e = .returned (.tuple #[]) ∧ OwnS w' base 3 1 v n (ivs (zs.mergeSort fun x y => decide (x ≤ y))) ∧ w.grownBy w' v.ownBlock := by
  have hl : zs.length = n := by have := h.1; simpa using this
  by_cases h0 : n = 0
  · subst h0
    have hz : zs = [] := List.eq_nil_of_length_eq_zero hl
    subst hz
    obtain ⟨A, c, hA, _, _⟩ := h.shape
    subst hA
    refine (Tryz.slices_Sort_int_none A c w).mono ?_
    rintro e w' ⟨rfl, rfl⟩
    exact ⟨rfl, by simpa using h, ⟨rfl, rfl, rfl, Nat.le_refl _, fun _ _ _ => rfl⟩⟩
  · rcases h.2 with ⟨_, h1⟩ | ⟨g, off, cap, cur, rfl, hb, hg, hnc, hm, hs, ht⟩
    · omega
    · have hlt : g < w.heap.size := (Array.getElem?_eq_some_iff.1 hg).1
      have hH : Holds (Value.int .i64) w g off zs.toArray := by
        intro j hj
        have hj' : j < zs.length := by simpa using hj
        refine ⟨?_, by simp [World.frozen?, hg]⟩
        obtain ⟨g', off', cap', hv', _, _, _, _, hc⟩ := h.form (by omega)
        cases hv'
        refine hc j _ ?_
        simp [hj']
      rw [← hl]
      refine (Tryz.slices_Sort_int g off cap zs w hH hlt (by omega)).mono ?_
      rintro e w' ⟨rfl, q, os, rfl⟩
      have hheap : (grow (putRow (Value.int .i64) (Sort.ahead w q) g off (zs.mergeSort fun x y => decide (x ≤ y)).toArray) os).heap[g]? = some (.cells (putCells (Value.int .i64) off (zs.mergeSort fun x y => decide (x ≤ y)).toArray cur) 3 (0, 0)) := by
        rw [heap_grow_old _ _ (by simpa using hlt)]
        simp [putRow, mapBlock, Sort.ahead, Array.getElem?_modify, hg, onCells]
      refine ⟨rfl, ⟨by simp, .inr ⟨g, off, cap, _, rfl, hb, hheap, by omega, hm, by simp [putCells]; omega, ?_⟩⟩, ⟨rfl, rfl, rfl, by simp, fun k hk hne => ?_⟩⟩
      · apply List.ext_getElem?
        intro j
        by_cases hj : j < zs.length
        · rw [Nat.mul_one, List.getElem?_take_of_lt hj, List.getElem?_drop, Array.getElem?_toList]
          have h1 : off + j < cur.size := by omega
          simp [putCells, hj, h1]
        · rw [Nat.mul_one, List.getElem?_take_eq_none (by omega), List.getElem?_eq_none (by simp; omega)]
      · rw [heap_grow_old _ _ (by simpa using hk)]
        have hgk : g ≠ k := fun e => hne (by simp [Value.ownBlock, e])
        simp [putRow, mapBlock, Sort.ahead, Array.getElem?_modify, hgk]

end Go.Proofs.YtinpopjnnljkhaaGreatDoor
/- A machine of its own for closed runs, made for the kernel: values are records, frames are pairs, code turned into functions, what comes next handed on. Definitions. -/
namespace Go.Proofs.YtinpopjnnljkhaaGreatDoor

/-- A value: tag 0 integer (a: kind, i), 1 bool (a), 2 string (s), 3 pointer (a: not nil, b block, c offset), 4 slice (a: not nil, b, c, d length, e capacity), 5 map (a, b), 6 function (a: 0 nil, 1 function b with l bound, c of them ahead of the arguments, 2 yield of loop b), 7 cells, 8 tuple, 9 nothing is said. -/
structure AV where
  tag : Nat
  a : Nat
  b : Nat
  c : Nat
  d : Nat
  e : Nat
  i : Int
  s : List UInt8
  l : List AV

instance : Inhabited AV := ⟨⟨9, 0, 0, 0, 0, 0, 0, [], []⟩⟩

def AV.int (k : Nat) (i : Int) : AV := ⟨0, k, 0, 0, 0, 0, i, [], []⟩
def AV.bool (b : Bool) : AV := ⟨1, b.toNat, 0, 0, 0, 0, 0, [], []⟩
def AV.str (s : List UInt8) : AV := ⟨2, 0, 0, 0, 0, 0, 0, s, []⟩
def AV.ptr (b c : Nat) : AV := ⟨3, 1, b, c, 0, 0, 0, [], []⟩
def AV.pnil : AV := ⟨3, 0, 0, 0, 0, 0, 0, [], []⟩
def AV.slc (b c d e : Nat) : AV := ⟨4, 1, b, c, d, e, 0, [], []⟩
def AV.snil : AV := ⟨4, 0, 0, 0, 0, 0, 0, [], []⟩
def AV.map (b : Nat) : AV := ⟨5, 1, b, 0, 0, 0, 0, [], []⟩
def AV.mnil : AV := ⟨5, 0, 0, 0, 0, 0, 0, [], []⟩
def AV.fn (f n : Nat) (l : List AV) : AV := ⟨6, 1, f, n, 0, 0, 0, [], l⟩
def AV.fnil : AV := ⟨6, 0, 0, 0, 0, 0, 0, [], []⟩
def AV.yield (b : Nat) : AV := ⟨6, 2, b, 0, 0, 0, 0, [], []⟩
def AV.agg (l : List AV) : AV := ⟨7, 0, 0, 0, 0, 0, 0, [], l⟩
def AV.tup (l : List AV) : AV := ⟨8, 0, 0, 0, 0, 0, 0, [], l⟩
def AV.junk : AV := ⟨9, 0, 0, 0, 0, 0, 0, [], []⟩
def AV.undef : AV := AV.tup []

/-- A thing in a box: the kernel keeps what a closed box holds. -/
structure Bx (α : Type) where
  f : α

/-- Eight things. -/
structure N8 (α : Type) where
  f0 : α
  f1 : α
  f2 : α
  f3 : α
  f4 : α
  f5 : α
  f6 : α
  f7 : α

def sel8 {α β : Type} (i : Nat) (k : (N8 α → α) → β) : β :=
  match i with
  | 0 => k N8.f0 | 1 => k N8.f1 | 2 => k N8.f2 | 3 => k N8.f3 | 4 => k N8.f4 | 5 => k N8.f5 | 6 => k N8.f6 | _ => k N8.f7
def put8 {α β : Type} (i : Nat) (k : (N8 α → α → N8 α) → β) : β :=
  match i with
  | 0 => k fun t v => ⟨v, t.f1, t.f2, t.f3, t.f4, t.f5, t.f6, t.f7⟩
  | 1 => k fun t v => ⟨t.f0, v, t.f2, t.f3, t.f4, t.f5, t.f6, t.f7⟩
  | 2 => k fun t v => ⟨t.f0, t.f1, v, t.f3, t.f4, t.f5, t.f6, t.f7⟩
  | 3 => k fun t v => ⟨t.f0, t.f1, t.f2, v, t.f4, t.f5, t.f6, t.f7⟩
  | 4 => k fun t v => ⟨t.f0, t.f1, t.f2, t.f3, v, t.f5, t.f6, t.f7⟩
  | 5 => k fun t v => ⟨t.f0, t.f1, t.f2, t.f3, t.f4, v, t.f6, t.f7⟩
  | 6 => k fun t v => ⟨t.f0, t.f1, t.f2, t.f3, t.f4, t.f5, v, t.f7⟩
  | _ => k fun t v => ⟨t.f0, t.f1, t.f2, t.f3, t.f4, t.f5, t.f6, v⟩
def rep8 {α : Type} (a : α) : N8 α := ⟨a, a, a, a, a, a, a, a⟩

/-- A frame: 64 slots, and 512 more. -/
structure Fr where
  lo : N8 (N8 AV)
  hi : N8 (N8 (N8 AV))
def frame0 : Fr := ⟨rep8 (rep8 AV.undef), rep8 (rep8 (rep8 AV.undef))⟩

def getF (i : Nat) : Bx (Fr → AV) :=
  match Nat.blt i 64 with
  | true => sel8 (i / 8) fun g => sel8 (i % 8) fun f => ⟨fun t => f (g t.lo)⟩
  | false => sel8 ((i - 64) / 64) fun g => sel8 ((i - 64) / 8 % 8) fun f => sel8 ((i - 64) % 8) fun e => ⟨fun t => e (f (g t.hi))⟩
def setF (i : Nat) : Bx (Fr → AV → Fr) :=
  match Nat.blt i 64 with
  | true => sel8 (i / 8) fun g => put8 (i / 8) fun G => put8 (i % 8) fun F => ⟨fun t v => ⟨G t.lo (F (g t.lo) v), t.hi⟩⟩
  | false => sel8 ((i - 64) / 64) fun g => put8 ((i - 64) / 64) fun G => sel8 ((i - 64) / 8 % 8) fun f => put8 ((i - 64) / 8 % 8) fun F => put8 ((i - 64) % 8) fun E =>
    ⟨fun t v => ⟨t.lo, G t.hi (F (g t.hi) (E (f (g t.hi)) v))⟩⟩

structure ME where
  key : AV
  val : AV
  born : Nat

/-- An object: cells; a map whose entries lie as they lie in memory; a map that is only looked up; an iterator over a map; the record of a loop over a function. -/
structure OB where
  kind : Nat   -- 0 cells, 1 map, 2 literal, 3 iterator, 4 loop
  n : Nat      -- element type · clock · · map · what a round left (0 nothing, 1 an exit, 2 a return)
  m : Nat      -- · · · since · state (0 ready, 1 busy, 2 done, 3 exhausted)
  cs : List AV
  es : List ME
  ns : List Nat   -- seen · the exit
  lp : Option (Nat × Fr × List Tmp × Code × Code)

def OB.arr (cs : List AV) (e : Nat) : OB := ⟨0, e, 0, cs, [], [], none⟩
def OB.map (es : List ME) (c : Nat) : OB := ⟨1, c, 0, [], es, [], none⟩
def OB.lit (es : List ME) : OB := ⟨2, 0, 0, [], es, [], none⟩
def OB.iter (m since : Nat) (seen : List Nat) : OB := ⟨3, m, since, [], [], seen, none⟩
def OB.loop (x o st : Nat) (lp : Nat × Fr × List Tmp × Code × Code) : OB := ⟨4, x, st, [], [], [o], some lp⟩

--{REC
noncomputable def ifB {α : Type} (b : Bool) (x y : α) : α := Bool.rec y x b
theorem ifB_true {α : Type} (x y : α) : ifB true x y = x := rfl
theorem ifB_false {α : Type} (x y : α) : ifB false x y = y := rfl

/-- The kernel's Nat.rec turns a number into a written one. -/
noncomputable def litN {α : Type} (n : Nat) (k : Nat → α) : α := Nat.rec (motive := fun _ => α) (k 0) (fun m _ => k m) (Nat.add n 1)
theorem litN_eq {α : Type} (n : Nat) (k : Nat → α) : litN n k = k n := rfl
noncomputable def bitK {β : Type} (n : Nat) (x y : β) : β := Nat.rec (motive := fun _ => β) x (fun _ _ => y) n
noncomputable def s8K {α β : Type} (i : Nat) (k : (N8 α → α) → β) : β :=
  bitK (Nat.div (Nat.mod i 8) 4) (bitK (Nat.mod (Nat.div i 2) 2) (bitK (Nat.mod i 2) (k N8.f0) (k N8.f1)) (bitK (Nat.mod i 2) (k N8.f2) (k N8.f3))) (bitK (Nat.mod (Nat.div i 2) 2) (bitK (Nat.mod i 2) (k N8.f4) (k N8.f5)) (bitK (Nat.mod i 2) (k N8.f6) (k N8.f7)))
def N8.u0 {α : Type} (t : N8 α) (v : α) : N8 α := ⟨v, t.f1, t.f2, t.f3, t.f4, t.f5, t.f6, t.f7⟩
def N8.u1 {α : Type} (t : N8 α) (v : α) : N8 α := ⟨t.f0, v, t.f2, t.f3, t.f4, t.f5, t.f6, t.f7⟩
def N8.u2 {α : Type} (t : N8 α) (v : α) : N8 α := ⟨t.f0, t.f1, v, t.f3, t.f4, t.f5, t.f6, t.f7⟩
def N8.u3 {α : Type} (t : N8 α) (v : α) : N8 α := ⟨t.f0, t.f1, t.f2, v, t.f4, t.f5, t.f6, t.f7⟩
def N8.u4 {α : Type} (t : N8 α) (v : α) : N8 α := ⟨t.f0, t.f1, t.f2, t.f3, v, t.f5, t.f6, t.f7⟩
def N8.u5 {α : Type} (t : N8 α) (v : α) : N8 α := ⟨t.f0, t.f1, t.f2, t.f3, t.f4, v, t.f6, t.f7⟩
def N8.u6 {α : Type} (t : N8 α) (v : α) : N8 α := ⟨t.f0, t.f1, t.f2, t.f3, t.f4, t.f5, v, t.f7⟩
def N8.u7 {α : Type} (t : N8 α) (v : α) : N8 α := ⟨t.f0, t.f1, t.f2, t.f3, t.f4, t.f5, t.f6, v⟩
noncomputable def p8K {α β : Type} (i : Nat) (k : (N8 α → α → N8 α) → β) : β :=
  bitK (Nat.div (Nat.mod i 8) 4) (bitK (Nat.mod (Nat.div i 2) 2) (bitK (Nat.mod i 2) (k N8.u0) (k N8.u1)) (bitK (Nat.mod i 2) (k N8.u2) (k N8.u3))) (bitK (Nat.mod (Nat.div i 2) 2) (bitK (Nat.mod i 2) (k N8.u4) (k N8.u5)) (bitK (Nat.mod i 2) (k N8.u6) (k N8.u7)))

/-- Where the objects lie: 32768 places, and a tree for more. -/
abbrev T1 := N8 (Option OB)
abbrev T2 := N8 T1
abbrev T3 := N8 T2
abbrev T4 := N8 T3
abbrev T5 := N8 T4
noncomputable def gH1 (i : Nat) : Bx (T5 → T4) := s8K i fun f => ⟨f⟩
noncomputable def gH2 (i : Nat) : Bx (T5 → T3) := litN (Nat.div i 8) fun q => s8K i fun f => ⟨fun t => f ((gH1 q).f t)⟩
noncomputable def gH3 (i : Nat) : Bx (T5 → T2) := litN (Nat.div i 8) fun q => s8K i fun f => ⟨fun t => f ((gH2 q).f t)⟩
noncomputable def gH4 (i : Nat) : Bx (T5 → T1) := litN (Nat.div i 8) fun q => s8K i fun f => ⟨fun t => f ((gH3 q).f t)⟩
noncomputable def gH5 (i : Nat) : Bx (T5 → Option OB) := litN (Nat.div i 8) fun q => s8K i fun f => ⟨fun t => f ((gH4 q).f t)⟩
noncomputable def uH1 (i : Nat) : Bx (T5 → T4 → T5) := p8K i fun f => ⟨f⟩
noncomputable def uH2 (i : Nat) : Bx (T5 → T3 → T5) := litN (Nat.div i 8) fun q => p8K i fun f => ⟨fun t v => (uH1 q).f t (f ((gH1 q).f t) v)⟩
noncomputable def uH3 (i : Nat) : Bx (T5 → T2 → T5) := litN (Nat.div i 8) fun q => p8K i fun f => ⟨fun t v => (uH2 q).f t (f ((gH2 q).f t) v)⟩
noncomputable def uH4 (i : Nat) : Bx (T5 → T1 → T5) := litN (Nat.div i 8) fun q => p8K i fun f => ⟨fun t v => (uH3 q).f t (f ((gH3 q).f t) v)⟩
noncomputable def uH5 (i : Nat) : Bx (T5 → Option OB → T5) := litN (Nat.div i 8) fun q => p8K i fun f => ⟨fun t v => (uH4 q).f t (f ((gH4 q).f t) v)⟩
inductive Trib where
  | nil
  | node (v : Option OB) (l r : Trib)
noncomputable def Trib.get (t : Trib) : Nat → Option OB :=
  Trib.rec (motive := fun _ => Nat → Option OB) (fun _ => none) (fun v _ _ ihl ihr n => ifB (Nat.beq n 0) v (ifB (Nat.beq (n % 2) 1) (ihl (n / 2)) (ihr (n / 2 - 1)))) t
def Trib.v : Trib → Option OB
  | .nil => none
  | .node v _ _ => v
def Trib.l : Trib → Trib
  | .nil => .nil
  | .node _ l _ => l
def Trib.r : Trib → Trib
  | .nil => .nil
  | .node _ _ r => r
noncomputable def Trib.put (o : Option OB) (d : Nat) : Trib → Nat → Trib :=
  Nat.rec (motive := fun _ => Trib → Nat → Trib) (fun t _ => t) (fun _ ih t n => ifB (Nat.beq n 0) (.node o t.l t.r) (ifB (Nat.beq (n % 2) 1) (.node t.v (ih t.l (n / 2)) t.r) (.node t.v t.l (ih t.r (n / 2 - 1))))) d
structure Trie where
  lo : T5
  hi : Trib
def Trie.nil : Trie := ⟨rep8 (rep8 (rep8 (rep8 (rep8 none)))), .nil⟩
noncomputable def getH (i : Nat) : Bx (Trie → Option OB) := ifB (Nat.blt i 32768) ⟨fun t => (gH5 i).f t.lo⟩ ⟨fun t => t.hi.get (i - 32768)⟩
noncomputable def putH (i : Nat) : Bx (Trie → Option OB → Trie) := ifB (Nat.blt i 32768) ⟨fun t v => ⟨(uH5 i).f t.lo v, t.hi⟩⟩ (ifB (Nat.ble (i + 2) 16777216) ⟨fun t v => ⟨t.lo, Trib.put v 24 t.hi (i - 32768)⟩⟩ ⟨fun t _ => t⟩)
attribute [irreducible] getH putH
structure AH where
  t : Trie
  next : Nat
noncomputable def AH.get (h : AH) (i : Nat) : Option OB := litN i fun j => (getH j).f h.t
noncomputable def AH.put (h : AH) (i : Nat) (o : Option OB) : AH := ⟨litN i fun j => (putH j).f h.t o, h.next⟩
noncomputable def AH.new (h : AH) (o : OB) : AH := litN h.next fun j => ⟨(putH j).f h.t (some o), Nat.add j 1⟩

section
variable {R : Type}
noncomputable def nthK (no : R) (l : List AV) : Nat → (AV → R) → R :=
  List.rec (motive := fun _ => Nat → (AV → R) → R) (fun _ _ => no) (fun a _ ih n k => Nat.rec (motive := fun _ => R) (k a) (fun j _ => ih j k) n) l
noncomputable def snthK (no : R) (l : List UInt8) : Nat → (UInt8 → R) → R :=
  List.rec (motive := fun _ => Nat → (UInt8 → R) → R) (fun _ _ => no) (fun a _ ih n k => Nat.rec (motive := fun _ => R) (k a) (fun j _ => ih j k) n) l
/-- n cells from o on. -/
noncomputable def takeK (no : R) (l : List AV) : Nat → Nat → (List AV → R) → R :=
  List.rec (motive := fun _ => Nat → Nat → (List AV → R) → R) (fun _ n k => Nat.rec (motive := fun _ => R) (k []) (fun _ _ => no) n)
    (fun a _ ih o n k => Nat.rec (motive := fun _ => R) (Nat.rec (motive := fun _ => R) (k []) (fun m _ => ih 0 m (fun r => k (a :: r))) n) (fun j _ => ih j n k) o) l
noncomputable def setK (no : R) (l : List AV) : Nat → List AV → (List AV → R) → R :=
  List.rec (motive := fun _ => Nat → List AV → (List AV → R) → R) (fun _ vs k => List.rec (motive := fun _ => R) (k []) (fun _ _ _ => no) vs)
    (fun a xs ih o vs k => Nat.rec (motive := fun _ => R) (List.rec (motive := fun _ => R) (k (a :: xs)) (fun v vs _ => ih 0 vs (fun r => k (v :: r))) vs) (fun j _ => ih j vs (fun r => k (a :: r))) o) l
/-- At most n turns of a loop. -/
noncomputable def loopK {T H O : Type} (no : R) (f : T → H → (Nat → O → T → H → R) → R) (n : Nat) : T → H → (Nat → O → T → H → R) → R :=
  Nat.rec (motive := fun _ => T → H → (Nat → O → T → H → R) → R) (fun _ _ _ => no) (fun _ ih t h k => f t h fun x o t h => ifB (Nat.beq x 0) (ih t h k) (k x o t h)) n
end
noncomputable def nthN {R : Type} (l : List Nat) (k : Nat → Option R) : Option R := List.rec (motive := fun _ => Option R) none (fun a _ _ => k a) l
noncomputable def strEq (l : List UInt8) : List UInt8 → Bool :=
  List.rec (motive := fun _ => List UInt8 → Bool) (fun m => List.rec (motive := fun _ => Bool) true (fun _ _ _ => false) m) (fun a _ ih m => List.rec (motive := fun _ => Bool) false (fun b bs _ => ifB (Nat.beq a.toNat b.toNat) (ih bs) false) m) l
noncomputable def intLt (x y : Int) : Bool :=
  Int.rec (motive := fun _ => Bool) (fun m => Int.rec (motive := fun _ => Bool) (fun n => Nat.ble (m + 1) n) (fun _ => false) y) (fun m => Int.rec (motive := fun _ => Bool) (fun _ => true) (fun n => Nat.ble (n + 1) m) y) x
noncomputable def intEq (x y : Int) : Bool :=
  Int.rec (motive := fun _ => Bool) (fun m => Int.rec (motive := fun _ => Bool) (fun n => Nat.beq m n) (fun _ => false) y) (fun m => Int.rec (motive := fun _ => Bool) (fun _ => false) (fun n => Nat.beq m n) y) x
noncomputable def intAdd (x y : Int) : Int :=
  Int.rec (motive := fun _ => Int) (fun m => Int.rec (motive := fun _ => Int) (fun n => ifB (Nat.ble (m + n) 9223372036854775807) (Int.ofNat (m + n)) (IntKind.i64.wrap (x + y))) (fun _ => IntKind.i64.wrap (x + y)) y) (fun _ => IntKind.i64.wrap (x + y)) x
noncomputable def intSub (x y : Int) : Int :=
  Int.rec (motive := fun _ => Int) (fun m => Int.rec (motive := fun _ => Int) (fun n => ifB (Nat.ble n m) (ifB (Nat.ble m 9223372036854775807) (Int.ofNat (m - n)) (IntKind.i64.wrap (x - y))) (IntKind.i64.wrap (x - y))) (fun _ => IntKind.i64.wrap (x - y)) y) (fun _ => IntKind.i64.wrap (x - y)) x
/-- A natural number, or nothing. -/
noncomputable def natK {R : Type} (no : R) (i : Int) (k : Nat → R) : R := Int.rec (motive := fun _ => R) k (fun _ => no) i
noncomputable def optK {α R : Type} (no : R) (x : Option α) (k : α → R) : R := Option.rec (motive := fun _ => R) no k x
--}REC

abbrev R := Option (AV × AH)

def kindN : IntKind → Nat
  | .i64 => 0 | .u8 => 1 | .i8 => 2 | .i16 => 3 | .i32 => 4 | .u16 => 5 | .u32 => 6 | .u64 => 7
def kindOf : Nat → IntKind
  | 0 => .i64 | 1 => .u8 | 2 => .i8 | 3 => .i16 | 4 => .i32 | 5 => .u16 | 6 => .u32 | _ => .u64

/-- Values that name no memory, from the model's values and back. -/
def ofV1 : Value → AV
  | .bool b => .bool b
  | .int k n => .int (kindN k) n
  | .string s => .str s.data.toList
  | .pointer none => .pnil
  | .slice none 0 0 => .snil
  | .map none => .mnil
  | .nilFunc => .fnil
  | .func (.func f) a b => match a.toList, b.toList with
    | [], [] => .fn f 0 []
    | _, _ => .junk
  | _ => .junk
def ofV : Value → AV
  | .agg cs => .agg (cs.toList.map ofV1)
  | .tuple cs => .tup (cs.toList.map ofV1)
  | v => ofV1 v
def toV1 (v : AV) : Option Value :=
  match v.tag, v.a with
  | 0, a => some (.int (kindOf a) v.i)
  | 1, 0 => some (.bool false)
  | 1, 1 => some (.bool true)
  | 2, _ => some (.string ⟨v.s.toArray⟩)
  | 3, 0 => some (.pointer none)
  | 4, 0 => some (.slice none 0 0)
  | 5, 0 => some (.map none)
  | 6, 0 => some .nilFunc
  | _, _ => none
def toVs : List AV → Option (List Value)
  | [] => some []
  | v :: l => match toV1 v with
    | some x => (toVs l).map (x :: ·)
    | none => none
def toV (v : AV) : Option Value :=
  match v.tag with
  | 7 => (toVs v.l).map fun l => .agg l.toArray
  | 8 => (toVs v.l).map fun l => .tuple l.toArray
  | _ => toV1 v

--{BOXV
/-- A value, brought to its form. -/
noncomputable def boxV (v : AV) : Bx (Fr → AV) := AV.casesOn (motive_1 := fun _ => Bx (Fr → AV)) v fun tag a b c d e i s l => ⟨fun _ => ⟨tag, a, b, c, d, e, i, s, l⟩⟩
theorem boxV_eq (v : AV) : boxV v = ⟨fun _ => v⟩ := by cases v; rfl
--}BOXV
noncomputable def evB : Operand → Bx (Fr → AV)
  | .tmp i => match Nat.blt i 512 with
    | true => getF i
    | false => ⟨fun _ => .junk⟩
  | .const v => boxV (ofV v)
  | .func f => ⟨fun _ => .fn f 0 []⟩
  | .global _ => ⟨fun _ => .junk⟩

def semEv {α : Type} (P : Program) : Sem α → Option α
  | .pure a => some a
  | .program k => semEv P (k P)
  | .mark _ k => semEv P k
  | _ => none

--{ATK
noncomputable def tlK {α : Type} (l : List α) : List α := List.rec (motive := fun _ => List α) [] (fun _ t _ => t) l
noncomputable def tl8 {α : Type} (l : List α) : List α := tlK (tlK (tlK (tlK (tlK (tlK (tlK (tlK l)))))))
/-- Eight times q things left out. -/
noncomputable def dr8 {α : Type} (l : List α) (q : Nat) : List α := Nat.rec (motive := fun _ => List α) l (fun _ r => tl8 r) q
noncomputable def headK {α : Type} (l : List α) : Option α := List.rec (motive := fun _ => Option α) none (fun a _ _ => some a) l
/-- The n-th of a list, quick. -/
noncomputable def atK {α : Type} (l : List α) (n : Nat) : Option α := litN (Nat.div n 8) fun q => litN (Nat.mod n 8) fun r => headK (Nat.rec (motive := fun _ => List α) (dr8 l q) (fun _ r => tlK r) r)
theorem tlK_eq {α : Type} (l : List α) : tlK l = l.drop 1 := by cases l <;> rfl
theorem dr8_eq {α : Type} (l : List α) : ∀ q, dr8 l q = l.drop (8 * q)
  | 0 => rfl
  | q + 1 => by
    have e : dr8 l (q + 1) = tl8 (dr8 l q) := rfl
    rw [e, dr8_eq l q]
    unfold tl8
    simp only [tlK_eq, List.drop_drop]
    congr 1
theorem tls_eq {α : Type} (l : List α) : ∀ r : Nat, (Nat.rec (motive := fun _ => List α) l (fun _ r => tlK r) r : List α) = l.drop r
  | 0 => rfl
  | r + 1 => by
    show tlK (Nat.rec (motive := fun _ => List α) l (fun _ r => tlK r) r) = _
    rw [tls_eq l r, tlK_eq, List.drop_drop]
theorem atK_eq {α : Type} (l : List α) (n : Nat) : atK l n = l[n]? := by
  unfold atK
  rw [litN_eq, litN_eq, tls_eq, dr8_eq, List.drop_drop]
  have e : 8 * Nat.div n 8 + Nat.mod n 8 = n := Nat.div_add_mod n 8
  rw [e, ← List.head?_drop]
  cases l.drop n <;> rfl
noncomputable def infK (P : Program) (t : TypeId) : Option TypeInfo := Option.rec (motive := fun _ => Option TypeInfo) (P.info? t) (fun i => some i) (atK P.types.toList t)
noncomputable def undK (P : Program) (t : TypeId) : Option TypeDesc :=
  match infK P t with
  | some { desc := .named _ u, .. } => (infK P u).map (·.desc)
  | some i => some i.desc
  | none => none
noncomputable def funK (P : Program) (f : Nat) : Option Func := atK P.funcs.toList f
theorem infK_eq (P : Program) (t : TypeId) : infK P t = P.info? t := by
  unfold infK
  cases h : atK P.types.toList t with
  | none => rfl
  | some i =>
    rw [atK_eq] at h
    have h2 : P.types[t]? = some i := by simpa using h
    have h3 : t < P.types.size := (Array.getElem?_eq_some_iff.1 h2).1
    show some i = P.info? t
    unfold Tables.info?
    rw [if_pos h3, h2]
theorem undK_eq (P : Program) (t : TypeId) : undK P t = P.underlying t := by
  unfold undK Program.underlying
  simp only [infK_eq]
  rfl
theorem funK_eq (P : Program) (f : Nat) : funK P f = P.funcs[f]? := by
  unfold funK
  rw [atK_eq]
  simp
--}ATK
noncomputable def aggA (P : Program) (t : TypeId) : Option Bool :=
  match undK P t with
  | some (.struct _) | some (.array _ _) => some true
  | some _ => some false
  | none => none
noncomputable def szA (P : Program) (t : TypeId) : Option Nat := (infK P t).map (·.size)

abbrev KV := AV → AH → R
/-- What an operation does that calls nothing. -/
abbrev OpT := Fr → AH → KV → R

/-- A part: of so many cells (some n), or one cell. -/
noncomputable def partC (n : Nat) (l : List AV) (o : Nat) (k : AV → R) : R := takeK none l o n fun r => k (.agg r)
noncomputable def partS (l : List AV) (o : Nat) (k : AV → R) : R := nthK none l o k
/-- How a part of a type is read. -/
noncomputable def partB (P : Program) (t : TypeId) : Bx (List AV → Nat → (AV → R) → R) :=
  match aggA P t, szA P t with
  | some true, some n => ⟨partC n⟩
  | some false, _ => ⟨partS⟩
  | _, _ => ⟨fun _ _ _ => none⟩

/-- The cells behind a pointer. -/
noncomputable def cellsK (h : AH) (p : AV) (k : OB → R) : R :=
  ifB (Nat.beq p.tag 3) (ifB (Nat.beq p.a 1) (optK none (h.get p.b) fun o => ifB (Nat.beq o.kind 0) (k o) none) none) none

def capU : Nat := 18446744073709551616

noncomputable def cellsOfV (v : AV) : List AV := ifB (Nat.beq v.tag 7) v.l [v]
def oneCellN (v : AV) : Bool := Nat.ble v.tag 6

noncomputable def failB : Bx OpT := ⟨fun _ _ _ => none⟩

noncomputable def moveC (x : Fr → AV) : OpT := fun t h k => k (x t) h
noncomputable def pickC (c x y : Fr → AV) : OpT := fun t h k => ifB (Nat.beq (c t).tag 1) (ifB (Nat.beq (c t).a 1) (k (x t) h) (k (y t) h)) none
noncomputable def allocC (z : List AV) (e : Nat) : OpT := fun _ h k => k (.ptr h.next 0) (h.new (.arr z e))
noncomputable def boxC (x : Fr → AV) (e : Nat) : OpT := fun t h k => ifB (Nat.ble (x t).tag 7) (k (.ptr h.next 0) (h.new (.arr (cellsOfV (x t)) e))) none
noncomputable def loadC (x : Fr → AV) (part : List AV → Nat → (AV → R) → R) : OpT := fun t h k => cellsK h (x t) fun o => part o.cs (x t).c fun v => k v h
noncomputable def storeOk (sz : Nat) (v : AV) (yes no : R) : R := ifB (Nat.beq (cellsOfV v).length sz) (ifB ((cellsOfV v).all oneCellN) yes no) no
noncomputable def storeC (x y : Fr → AV) (sz : Nat) : OpT := fun t h k => storeOk sz (y t) (cellsK h (x t) fun o => setK none o.cs (x t).c (cellsOfV (y t)) fun r => k .undef (h.put (x t).b (some (.arr r o.n)))) none
noncomputable def store1C (x y : Fr → AV) : OpT := fun t h k => ifB (oneCellN (y t)) (cellsK h (x t) fun o => setK none o.cs (x t).c [y t] fun r => k .undef (h.put (x t).b (some (.arr r o.n)))) none
noncomputable def nilC (x : Fr → AV) : OpT := fun t h k => ifB (Nat.beq (x t).tag 3) (ifB (Nat.beq (x t).a 1) (k (x t) h) none) (ifB (Nat.beq (x t).tag 6) (ifB (Nat.beq (x t).a 0) none (k (x t) h)) none)
noncomputable def fieldAddrC (x : Fr → AV) (o : Nat) : OpT := fun t h k => ifB (Nat.beq (x t).tag 3) (ifB (Nat.beq (x t).a 1) (k (.ptr (x t).b ((x t).c + o)) h) none) none
noncomputable def fieldC (x : Fr → AV) (part : List AV → Nat → (AV → R) → R) (o : Nat) : OpT := fun t h k => ifB (Nat.beq (x t).tag 7) (part (x t).l o fun v => k v h) none
noncomputable def indexPtrC (x i : Fr → AV) (s m : Nat) : OpT := fun t h k => ifB (Nat.beq (x t).tag 3) (ifB (Nat.beq (x t).a 1) (ifB (Nat.beq (i t).tag 0) (natK none (i t).i fun n => ifB (Nat.ble (n + 1) m) (k (.ptr (x t).b ((x t).c + n * s)) h) none) none) none) none
noncomputable def indexAddrC (x i : Fr → AV) (s : Nat) : OpT := fun t h k => ifB (Nat.beq (x t).tag 4) (ifB (Nat.beq (x t).a 1) (ifB (Nat.beq (i t).tag 0) (natK none (i t).i fun n => ifB (Nat.ble (n + 1) (x t).d) (k (.ptr (x t).b ((x t).c + n * s)) h) none) none) none) none
noncomputable def sindexC (x i : Fr → AV) : OpT := fun t h k => ifB (Nat.beq (x t).tag 2) (ifB (Nat.beq (i t).tag 0) (natK none (i t).i fun n => snthK none (x t).s n fun b => k (.int 1 b.toNat) h) none) none
noncomputable def extractC (x : Fr → AV) (i : Nat) : OpT := fun t h k => ifB (Nat.beq (x t).tag 8) (nthK none (x t).l i fun v => k v h) none
noncomputable def notC (x : Fr → AV) : OpT := fun t h k => ifB (Nat.beq (x t).tag 1) (k (.bool (Nat.beq (x t).a 0)) h) none
noncomputable def lenC (x : Fr → AV) : OpT := fun t h k => ifB (Nat.beq (x t).tag 4) (k (.int 0 (x t).d) h) none
noncomputable def slenC (x : Fr → AV) : OpT := fun t h k => ifB (Nat.beq (x t).tag 2) (k (.int 0 (x t).s.length) h) none
noncomputable def mlenC (x : Fr → AV) : OpT := fun t h k => ifB (Nat.beq (x t).tag 5) (ifB (Nat.beq (x t).a 0) (k (.int 0 0) h) (optK none (h.get (x t).b) fun o => ifB (Nat.beq o.kind 1) (k (.int 0 o.es.length) h) none)) none

/-- Both are integers of one kind. -/
noncomputable def intsK (x y : AV) (k : R) : R := ifB (Nat.beq x.tag 0) (ifB (Nat.beq y.tag 0) (ifB (Nat.beq x.a y.a) k none) none) none
noncomputable def cmpC (f : Int → Int → Bool) (x y : Fr → AV) : OpT := fun t h k => intsK (x t) (y t) (k (.bool (f (x t).i (y t).i)) h)
noncomputable def arithC (f : Int → Int → Int) (x y : Fr → AV) : OpT := fun t h k => ifB (Nat.beq (x t).a 0) (intsK (x t) (y t) (k (.int 0 (f (x t).i (y t).i)) h)) none
/-- Equal (or not), of one tag: integers, bools, strings; anything with nil. -/
noncomputable def eqI (x y : AV) (k : Bool → R) : R := ifB (Nat.beq x.tag 0) (ifB (Nat.beq y.tag 0) (ifB (Nat.beq x.a y.a) (k (intEq x.i y.i)) none) none) none
noncomputable def eqS (x y : AV) (k : Bool → R) : R := ifB (Nat.beq x.tag 2) (ifB (Nat.beq y.tag 2) (k (strEq x.s y.s)) none) none
noncomputable def eqB (x y : AV) (k : Bool → R) : R := ifB (Nat.beq x.tag 1) (ifB (Nat.beq y.tag 1) (k (Nat.beq x.a y.a)) none) none
noncomputable def eqN (T : Nat) (x y : AV) (k : Bool → R) : R := ifB (Nat.beq x.tag T) (ifB (Nat.beq y.tag T) (ifB (Nat.beq x.a 0) (k (Nat.beq y.a 0)) (ifB (Nat.beq y.a 0) (k false) none)) none) none
noncomputable def eqC (eq : AV → AV → (Bool → R) → R) (x y : Fr → AV) : OpT := fun t h k => eq (x t) (y t) fun b => k (.bool b) h
noncomputable def neC (eq : AV → AV → (Bool → R) → R) (x y : Fr → AV) : OpT := fun t h k => eq (x t) (y t) fun b => k (.bool (ifB b false true)) h
noncomputable def eqOf (d : TypeDesc) : Option (Bx (AV → AV → (Bool → R) → R)) :=
  match d with
  | .int _ => some ⟨eqI⟩ | .string => some ⟨eqS⟩ | .bool => some ⟨eqB⟩ | .pointer _ => some ⟨eqN 3⟩ | .slice _ => some ⟨eqN 4⟩ | .map _ _ => some ⟨eqN 5⟩ | .func .. => some ⟨eqN 6⟩
  | _ => none
noncomputable def addStrC (x y : Fr → AV) : OpT := fun t h k => ifB (Nat.beq (x t).tag 2) (ifB (Nat.beq (y t).tag 2) (ifB (Nat.ble ((x t).s.length + (y t).s.length) 1000000) (k (.str ((x t).s ++ (y t).s)) h) none) none) none

/-- Whatever else looks at no memory: as the model has it. -/
noncomputable def pureC (P : Program) (o : Oper) : OpT := fun t h k =>
  ifB (o.op.operands.toList.all fun x => (toV ((evB x).f t)).isSome) (optK none (semEv P (execOp (fun x => (toV ((evB x).f t)).getD undef) o)) fun
    | .value v => ifB ((toV (ofV v)).isSome) (k (ofV v) h) none
    | _ => none) none

noncomputable def fillB (place : Nat → Option (Nat × Nat)) : List (Nat × Operand) → Bx (Fr → List AV → (List AV → R) → R)
  | [] => ⟨fun _ cs k => k cs⟩
  | (i, x) :: rest => match place i with
    | some (off, 1) => ⟨fun t cs k => ifB (oneCellN ((evB x).f t)) (setK none cs off [(evB x).f t] fun r => (fillB place rest).f t r k)
        (ifB (Nat.beq ((evB x).f t).tag 7) (ifB (Nat.beq ((evB x).f t).l.length 1) (setK none cs off ((evB x).f t).l fun r => (fillB place rest).f t r k) none) none)⟩
    | some (off, sz + 2) => ⟨fun t cs k => ifB (Nat.beq ((evB x).f t).tag 7) (ifB (Nat.beq ((evB x).f t).l.length (sz + 2)) (setK none cs off ((evB x).f t).l fun r => (fillB place rest).f t r k) none) none⟩
    | _ => ⟨fun _ _ _ => none⟩

noncomputable def zeroA (P : Program) (t : TypeId) : Option (List AV) :=
  match infK P t with
  | some i => match i.zero with
    | some z => some (z.cells.toList.map ofV1)
    | none => none
  | none => none
noncomputable def zeroVA (P : Program) (t : TypeId) : Option AV :=
  match infK P t with
  | some i => i.zero.map ofV
  | none => none
/-- Rows of the type: its zero value has as many cells as it says, and is not too large. -/
noncomputable def okRow (P : Program) (e : TypeId) : Bool :=
  match infK P e with
  | some i => match i.zero with
    | some z => Nat.beq z.cells.size i.size && Nat.ble i.size 100 && Nat.ble i.bytes 1000 && Nat.ble 1 i.size
    | none => false
  | none => false
def repA (z : List AV) : Nat → List AV
  | 0 => []
  | n + 1 => z ++ repA z n

noncomputable def buildC (z : List AV) (fill : Fr → List AV → (List AV → R) → R) : OpT := fun t h k => fill t z fun cs => k (.agg cs) h
noncomputable def buildSliceC (z : List AV) (e n : Nat) (fill : Fr → List AV → (List AV → R) → R) : OpT := fun t h k => fill t z fun cs => k (.slc h.next 0 n n) (h.new (.arr cs e))

/-- The cells of a slice. -/
noncomputable def rowK (h : AH) (e s : Nat) (v : AV) (k : List AV → R) : R :=
  ifB (Nat.beq v.tag 4) (ifB (Nat.beq v.d 0) (k []) (ifB (Nat.beq v.a 1) (optK none (h.get v.b) fun o => ifB (Nat.beq o.kind 0) (ifB (Nat.beq o.n e) (takeK none o.cs v.c (v.d * s) k) none) none) none)) none
noncomputable def appendK (h : AH) (e s : Nat) (x : AV) (n : Nat) (new : List AV) (k : KV) : R :=
  ifB (Nat.beq n 0) (k x h) (ifB (Nat.ble (x.d + n) 1000000) (ifB (Nat.beq x.a 0) (k (.slc h.next 0 n capU) (h.new (.arr new e)))
    (rowK h e s x fun old => ifB (Nat.ble (x.d + n) x.e)
      (optK none (h.get x.b) fun o => ifB (Nat.beq o.kind 0) (ifB (Nat.beq o.n e) (k (.slc h.next 0 (x.d + n) x.e) ((h.put x.b none).new (.arr (old ++ new) e))) none) none)
      (k (.slc h.next 0 (x.d + n) capU) (h.new (.arr (old ++ new) e))))) none)
noncomputable def appendC (x y : Fr → AV) (e s : Nat) : OpT := fun t h k => ifB (Nat.beq (x t).tag 4) (rowK h e s (y t) fun new => ifB (new.all oneCellN) (appendK h e s (x t) (y t).d new k) none) none

noncomputable def evsB : List Operand → Bx (Fr → List AV)
  | [] => ⟨fun _ => []⟩
  | x :: l => ⟨fun t => (evB x).f t :: (evsB l).f t⟩

/-- The slice's block holds such elements (or it is not asked: l = 0). -/
noncomputable def isRow (h : AH) (e l b : Nat) (k : R) : R := ifB (Nat.beq l 0) k (optK none (h.get b) fun o => ifB (Nat.beq o.kind 0) (ifB (Nat.beq o.n e) k none) none)
/-- The bounds of a slice: the first, the last, the capacity's. -/
noncomputable def boundB (x : Option Operand) : Bx (Fr → Nat → (Nat → R) → R) :=
  match x with
  | none => ⟨fun _ d k => k d⟩
  | some x => ⟨fun t _ k => ifB (Nat.beq ((evB x).f t).tag 0) (natK none ((evB x).f t).i k) none⟩
noncomputable def sliceC (x : Fr → AV) (e s : Nat) (lo hi mx : Fr → Nat → (Nat → R) → R) (full : Bool) : OpT := fun t h k =>
  ifB (Nat.beq (x t).tag 4) (lo t 0 fun l => hi t (x t).d fun n => mx t (x t).d fun m =>
    ifB (Nat.ble l n) (ifB (Nat.ble n m) (ifB (Nat.ble m (x t).d) (ifB (Nat.beq (x t).a 0) (k .snil h)
      (isRow h e l (x t).b (k (.slc (x t).b ((x t).c + l * s) (n - l) (ifB full (m - l) (ifB (Nat.beq (x t).e capU) capU ((x t).e - l)))) h))) none) none) none) none
noncomputable def sstrC (x : Fr → AV) (lo hi : Fr → Nat → (Nat → R) → R) : OpT := fun t h k =>
  ifB (Nat.beq (x t).tag 2) (lo t 0 fun l => hi t (x t).s.length fun n => ifB (Nat.ble l n) (ifB (Nat.ble n (x t).s.length) (k (.str (((x t).s.drop l).take (n - l))) h) none) none) none

noncomputable def keyEq (x y : AV) (k : Bool → R) : R := ifB (Nat.beq x.tag y.tag) (ifB (Nat.beq x.a y.a) (ifB (Nat.beq x.tag 0) (k (intEq x.i y.i)) (ifB (Nat.beq x.tag 2) (k (strEq x.s y.s)) none)) (ifB (Nat.beq x.tag 1) (k false) none)) none
/-- The tag of a type's keys. -/
def keyTag (d : Option TypeDesc) : Option Nat :=
  match d with
  | some (.int _) => some 0
  | some .string => some 2
  | _ => none
--{REC2
noncomputable def findK (key : AV) (es : List ME) : R → (AV → R) → R :=
  List.rec (motive := fun _ => R → (AV → R) → R) (fun no _ => no) (fun e _ ih no yes => keyEq key e.key fun b => ifB b (yes e.val) (ih no yes)) es
noncomputable def updK (key val : AV) (es : List ME) : (List ME → R) → R :=
  List.rec (motive := fun _ => (List ME → R) → R) (fun _ => none) (fun e es ih k => keyEq key e.key fun b => ifB b (k (⟨key, val, e.born⟩ :: es)) (ih fun r => k (e :: r))) es
/-- The entry of a stamp. -/
noncomputable def bornK (b : Nat) (es : List ME) : (ME → R) → R :=
  List.rec (motive := fun _ => (ME → R) → R) (fun _ => none) (fun e _ ih k => ifB (Nat.beq e.born b) (k e) (ih k)) es
/-- The entries that are not seen: none; the only one. -/
noncomputable def leftK (seen : List Nat) (es : List ME) : (none_ : R) → (ME → R) → R :=
  List.rec (motive := fun _ => R → (ME → R) → R) (fun no _ => no) (fun e es ih no one => ifB (seen.elem e.born) (ih no one) (ifB (es.all fun e => seen.elem e.born) (one e) none)) es
--}REC2
noncomputable def lookupC (T : Nat) (x y : Fr → AV) (z : AV) (ok : Bool) : OpT := fun t h k =>
  ifB (Nat.beq (x t).tag 5) (ifB (Nat.beq (y t).tag T)
    (ifB (Nat.beq (x t).a 0) (k (ifB ok (.tup [z, .bool false]) z) h)
      (optK none (h.get (x t).b) fun o => ifB (Nat.beq o.kind 1) (findK (y t) o.es (k (ifB ok (.tup [z, .bool false]) z) h) fun v => k (ifB ok (.tup [v, .bool true]) v) h)
        (ifB (Nat.beq o.kind 2) (findK (y t) o.es (k (ifB ok (.tup [z, .bool false]) z) h) fun v => k (ifB ok (.tup [v, .bool true]) v) h) none))) none) none
noncomputable def updateC (T : Nat) (x y z : Fr → AV) : OpT := fun t h k =>
  ifB (Nat.beq (x t).tag 5) (ifB (Nat.beq (x t).a 1) (ifB (Nat.beq (y t).tag T) (optK none (h.get (x t).b) fun o => ifB (Nat.beq o.kind 1)
    (findK (y t) o.es (k .undef (h.put (x t).b (some (.map (o.es ++ [⟨y t, z t, o.n⟩]) (o.n + 1))))) fun _ => updK (y t) (z t) o.es fun es => k .undef (h.put (x t).b (some (.map es o.n)))) none) none) none) none
noncomputable def rangeC (x : Fr → AV) : OpT := fun t h k =>
  ifB (Nat.beq (x t).tag 5) (ifB (Nat.beq (x t).a 1) (optK none (h.get (x t).b) fun o => ifB (Nat.beq o.kind 1) (k (.ptr h.next 0) (h.new (.iter (x t).b o.n []))) none) none) none
noncomputable def iterK (h : AH) (p : AV) (k : OB → OB → R) : R :=
  ifB (Nat.beq p.tag 3) (ifB (Nat.beq p.a 1) (ifB (Nat.beq p.c 0) (optK none (h.get p.b) fun r => ifB (Nat.beq r.kind 3) (optK none (h.get r.n) fun m => ifB (Nat.beq m.kind 1) (ifB (Nat.beq m.n r.m) (k r m) none) none) none) none) none) none
noncomputable def nextC (x : Fr → AV) : OpT := fun t h k => iterK h (x t) fun r m =>
  leftK r.ns m.es (k (.tup [.bool false]) h) fun e => k (.tup [.bool true, e.key, e.val]) (h.put (x t).b (some (.iter r.n r.m (e.born :: r.ns))))
noncomputable def entryC (x : Fr → AV) : OpT := fun t h k => iterK h (x t) fun r m => match r.ns with
  | b :: _ => bornK b m.es fun e => k (.tup [e.key, e.val]) h
  | [] => none

noncomputable def oB0 (P : Program) (e : TypeId) : Bx OpT :=
  match zeroA P e, szA P e with
  | some z, some _ => ⟨allocC z e⟩
  | _, _ => failB
noncomputable def oB1 (P : Program) (e : TypeId) (x : Operand) : Bx OpT :=
  match szA P e with
  | some _ => ⟨boxC (evB x).f e⟩
  | none => failB
noncomputable def oB2 (P : Program) (ty : TypeId) (parts : Array (Nat × Operand)) : Bx OpT :=
  match zeroA P ty, undK P ty with
  | some z, some (.struct fs) => match fs.toList.all fun f => (szA P f.type).isSome with
    | false => failB
    | true => ⟨buildC z (fillB (fun i => match fs[i]? with | some f => (szA P f.type).map fun s => (f.offset, s) | none => none) parts.toList).f⟩
  | some z, some (.array _ e) => match szA P e with
    | some s => ⟨buildC z (fillB (fun i => some (i * s, s)) parts.toList).f⟩
    | none => failB
  | _, _ => failB
noncomputable def oB3 (P : Program) (ty : TypeId) (len : Nat) (parts : Array (Nat × Operand)) : Bx OpT :=
  match undK P ty with
  | some (.slice e) => match zeroA P e, szA P e, okRow P e && Nat.ble len 100000 with
    | some z, some s, true => ⟨buildSliceC (repA z len) e len (fillB (fun i => some (i * s, s)) parts.toList).f⟩
    | _, _, _ => failB
  | _ => failB
noncomputable def oB4 (P : Program) (ty : TypeId) (a : Operand) (x : Operand) : Bx OpT :=
  match aggA P ty, szA P ty with
  | some false, some 1 => ⟨store1C (evB a).f (evB x).f⟩
  | _, some s => ⟨storeC (evB a).f (evB x).f s⟩
  | _, none => failB
noncomputable def oB5 (P : Program) (o : Oper) (op : BinOp) (ty : TypeId) (x : Operand) (y : Operand) : Bx OpT :=
  match op, undK P ty with
  | .add, some (.int .i64) => ⟨arithC intAdd (evB x).f (evB y).f⟩
  | .sub, some (.int .i64) => ⟨arithC intSub (evB x).f (evB y).f⟩
  | .lss, some (.int _) => ⟨cmpC intLt (evB x).f (evB y).f⟩
  | .gtr, some (.int _) => ⟨cmpC (fun a b => intLt b a) (evB x).f (evB y).f⟩
  | .leq, some (.int _) => ⟨cmpC (fun a b => ifB (intLt b a) false true) (evB x).f (evB y).f⟩
  | .geq, some (.int _) => ⟨cmpC (fun a b => ifB (intLt a b) false true) (evB x).f (evB y).f⟩
  | .add, some .string => ⟨addStrC (evB x).f (evB y).f⟩
  | .eql, some d => match eqOf d with
    | some f => ⟨eqC f.f (evB x).f (evB y).f⟩
    | none => ⟨pureC P o⟩
  | .neq, some d => match eqOf d with
    | some f => ⟨neC f.f (evB x).f (evB y).f⟩
    | none => ⟨pureC P o⟩
  | _, _ => ⟨pureC P o⟩
noncomputable def oB6 (P : Program) (o : Oper) (src : TypeId) (dst : TypeId) (x : Operand) : Bx OpT :=
  match undK P src, undK P dst with
  | some .string, some (.slice e) => match undK P e with
    | some (.int .u8) => match szA P e with
      | some 1 => ⟨fun t h k => ifB (Nat.beq ((evB x).f t).tag 2) (ifB (Nat.ble ((evB x).f t).s.length 1000000) (k (.slc h.next 0 ((evB x).f t).s.length capU) (h.new (.arr (((evB x).f t).s.map fun b => .int 1 b.toNat) e))) none) none⟩
      | _ => failB
    | _ => failB
  | some (.slice _), some (.slice e) => match undK P e with
    | some (.int .u8) => match Nat.beq src dst with
      | true => ⟨fun t h k => ifB (Nat.beq ((evB x).f t).tag 4) (ifB (Nat.beq ((evB x).f t).a 1) (optK none (h.get ((evB x).f t).b) fun o => ifB (Nat.beq o.kind 0) (k ((evB x).f t) h) none) none) none⟩
      | false => failB
    | _ => failB
  | _, _ => ⟨pureC P o⟩
noncomputable def oB7 (P : Program) (ty : TypeId) (x : Operand) : Bx OpT :=
  match undK P ty with
  | some (.map _ _) => ⟨fun t h k => ifB (Nat.beq ((evB x).f t).tag 0) (k (.map h.next) (h.new (.map [] 0))) none⟩
  | _ => failB
noncomputable def oB8 (P : Program) (ty : TypeId) (l : Operand) (c : Operand) : Bx OpT :=
  match undK P ty with
  | some (.slice e) => match zeroA P e, okRow P e with
    | some z, true => ⟨fun t h k => ifB (Nat.beq ((evB l).f t).tag 0) (ifB (Nat.beq ((evB c).f t).tag 0) (natK none ((evB l).f t).i fun n => natK none ((evB c).f t).i fun m => ifB (Nat.ble n m) (ifB (Nat.ble m 1000000) (k (.slc h.next 0 n m) (h.new (.arr (repA z m) e))) none) none) none) none⟩
    | _, _ => failB
  | _ => failB
noncomputable def oB9 (P : Program) (ty : TypeId) (x : Operand) (lo : Option Operand) (hi : Option Operand) (mx : Option Operand) : Bx OpT :=
  match undK P ty with
  | some (.slice e) => match szA P e with
    | some s => match mx.isNone || hi.isSome with
      | true => ⟨sliceC (evB x).f e s (boundB lo).f (boundB hi).f (boundB mx).f mx.isSome⟩
      | false => failB
    | none => failB
  | some .string => match mx with
    | none => ⟨sstrC (evB x).f (boundB lo).f (boundB hi).f⟩
    | some _ => failB
  | _ => failB
noncomputable def oB10 (P : Program) (s : TypeId) (x : Operand) (f : Nat) : Bx OpT :=
  match undK P s with
  | some (.struct fs) => match fs[f]? with
    | some fd => match szA P fd.type with
      | some (_ + 1) => ⟨fieldAddrC (evB x).f fd.offset⟩
      | _ => failB
    | none => failB
  | _ => failB
noncomputable def oB11 (P : Program) (s : TypeId) (x : Operand) (f : Nat) : Bx OpT :=
  match undK P s with
  | some (.struct fs) => match fs[f]? with
    | some fd => ⟨fieldC (evB x).f (partB P fd.type).f fd.offset⟩
    | none => failB
  | _ => failB
noncomputable def oB12 (P : Program) (ty : TypeId) (x : Operand) (ix : Operand) : Bx OpT :=
  match undK P ty with
  | some (.array m e) => match szA P e with
    | some s => ⟨indexPtrC (evB x).f (evB ix).f s m⟩
    | none => failB
  | some (.slice e) => match szA P e with
    | some s => ⟨indexAddrC (evB x).f (evB ix).f s⟩
    | none => failB
  | _ => failB
noncomputable def oB13 (P : Program) (o : Oper) (ty : TypeId) (x : Operand) (ix : Operand) : Bx OpT :=
  match undK P ty with
  | some .string => ⟨sindexC (evB x).f (evB ix).f⟩
  | _ => ⟨pureC P o⟩
noncomputable def oB14 (P : Program) (ty : TypeId) (x : Operand) (k : Operand) (ok : Bool) : Bx OpT :=
  match undK P ty with
  | some (.map kt e) => match zeroVA P e, keyTag (undK P kt) with
    | some z, some T => ⟨lookupC T (evB x).f (evB k).f z ok⟩
    | _, _ => failB
  | _ => failB
noncomputable def oB15 (P : Program) (ty : TypeId) (m : Operand) (k : Operand) (x : Operand) : Bx OpT :=
  match undK P ty with
  | some (.map kt _) => match keyTag (undK P kt) with
    | some T => ⟨updateC T (evB m).f (evB k).f (evB x).f⟩
    | none => failB
  | _ => failB
noncomputable def oB16 (P : Program) (ty : TypeId) (x : Operand) : Bx OpT :=
  match undK P ty with
  | some (.map _ _) => ⟨rangeC (evB x).f⟩
  | _ => failB
noncomputable def oB17 (P : Program) (args : Array Operand) (argTypes : Array TypeId) : Bx OpT :=
  match args.toList, (argTypes[0]?).bind (undK P) with
  | [x], some (.slice _) => ⟨lenC (evB x).f⟩
  | [x], some .string => ⟨slenC (evB x).f⟩
  | [x], some (.map _ _) => ⟨mlenC (evB x).f⟩
  | _, _ => failB
noncomputable def oB18 (P : Program) (args : Array Operand) (argTypes : Array TypeId) : Bx OpT :=
  match args.toList, argTypes.toList with
  | [x, y], [tx, ty] => match undK P tx, undK P ty with
   | some (.slice e), some (.slice e') => match Nat.beq e e', szA P e with
    | true, some s => match okRow P e with
      | true => ⟨appendC (evB x).f (evB y).f e s⟩
      | false => failB
    | _, _ => failB
   | _, _ => failB
  | _, _ => failB
/-- An operation that calls nothing, as a function of the frame. -/
noncomputable def opB (P : Program) (o : Oper) : Bx OpT :=
  match o.op with
  | .move x | .assign x => ⟨moveC (evB x).f⟩
  | .pick c a b => ⟨pickC (evB c).f (evB a).f (evB b).f⟩
  | .alloc e => oB0 P e
  | .box e x => oB1 P e x
  | .build ty parts => oB2 P ty parts
  | .buildSlice ty len parts => oB3 P ty len parts
  | .load ty a => ⟨loadC (evB a).f (partB P ty).f⟩
  | .store ty a x => oB4 P ty a x
  | .nilCheck x => ⟨nilC (evB x).f⟩
  | .binOp op ty x y _ => oB5 P o op ty x y
  | .unOp .not _ x => ⟨notC (evB x).f⟩
  | .convert src dst x => oB6 P o src dst x
  | .makeFunc (.func f) first captured => ⟨fun t h k => k (.fn f first.size ((evsB (first.toList ++ captured.toList)).f t)) h⟩
  | .makeMap _ none => ⟨fun _ h k => k (.map h.next) (h.new (.map [] 0))⟩
  | .makeMap ty (some x) => oB7 P ty x
  | .makeSlice ty l c => oB8 P ty l c
  | .slice ty x lo hi mx => oB9 P ty x lo hi mx
  | .fieldAddr s x f => oB10 P s x f
  | .field s x f => oB11 P s x f
  | .indexAddr ty x ix => oB12 P ty x ix
  | .index ty x ix => oB13 P o ty x ix
  | .lookup ty x k ok => oB14 P ty x k ok
  | .mapUpdate ty m k x | .insert ty m k x => oB15 P ty m k x
  | .range ty x => oB16 P ty x
  | .next it false => ⟨nextC (evB it).f⟩
  | .entry it => ⟨entryC (evB it).f⟩
  | .extract x i => ⟨extractC (evB x).f i⟩
  | .call { callee := .builtin .len, args, argTypes } => oB17 P args argTypes
  | .call { callee := .builtin .append, args, argTypes } => oB18 P args argTypes
  | .call { callee := .builtin _, .. } | .unOp .. => ⟨pureC P o⟩
  | _ => failB

/-- How calls are served: of a function, by its number; of a loop's yield. -/
structure CallT where
  st : Nat → List AV → AH → KV → R
  yd : Nat → List AV → AH → KV → R

/-- Numbers in a tree: so that a number that was reckoned becomes one that is written. -/
inductive LT where
  | leaf (n : Nat)
  | node (l r : LT)
def litT : Nat → Nat → Nat → LT
  | 0, a, _ => .leaf a
  | d + 1, a, s => .node (litT d a (2 * s)) (litT d (a + s) (2 * s))
noncomputable def litK (t : LT) : Nat → (Nat → R) → R :=
  LT.rec (motive := fun _ => Nat → (Nat → R) → R) (fun m _ k => k m) (fun _ _ ihl ihr n k => ifB (Nat.beq (n % 2) 0) (ihl (n / 2) k) (ihr (n / 2) k)) t
/-- What code does: it ends (0: behind the code, with 0; 1: at an exit; 2: at a return). -/
abbrev KC := Nat → Nat → Fr → AH → R
abbrev CodeT := CallT → Fr → AH → KC → R

def putF (n : Nat) (d : Option Tmp) : Bx (Fr → AV → Fr) :=
  match d with
  | none => ⟨fun t _ => t⟩
  | some d => match Nat.blt d n with
    | true => setF d
    | false => ⟨fun t _ => t⟩

noncomputable def callS (f : Nat) (xs : Fr → List AV) (put : Fr → AV → Fr) (rest : CodeT) : CodeT := fun call t h k => call.st f (xs t) h fun v h => rest call (put t v) h k
/-- A call of a value. -/
noncomputable def valK (call : CallT) (f : AV) (xs : List AV) (h : AH) (k : KV) : R :=
  ifB (Nat.beq f.tag 6) (ifB (Nat.beq f.a 1) (ifB (Nat.ble f.b 1023) (litK (litT 10 0 1) f.b fun m => ifB (Nat.beq f.c 0) (call.st m (xs ++ f.l) h k) (call.st m (f.l.take f.c ++ xs ++ f.l.drop f.c) h k)) none) (ifB (Nat.beq f.a 2) (call.yd f.b xs h k) none)) none
noncomputable def callD (f : Fr → AV) (xs : Fr → List AV) (put : Fr → AV → Fr) (rest : CodeT) : CodeT := fun call t h k => valK call (f t) (xs t) h fun v h => rest call (put t v) h k
noncomputable def thenC (op : OpT) (put : Fr → AV → Fr) (rest : CodeT) : CodeT := fun call t h k => op t h fun v h => rest call (put t v) h k
noncomputable def guardC (g : Fr → AV) (want : Nat) (yes no : CodeT) : CodeT := fun call t h k => ifB (Nat.beq (g t).tag 1) (ifB (Nat.beq (g t).a want) (yes call t h k) (no call t h k)) (ifB (Nat.beq (g t).tag 8) (no call t h k) none)
noncomputable def skipC (put : Fr → AV → Fr) (rest : CodeT) : CodeT := fun call t h k => rest call (put t .undef) h k

/-- One operation, unguarded. -/
noncomputable def oneB (P : Program) (n : Nat) (o : Oper) (rest : Bx CodeT) : Bx CodeT :=
  match o.op with
  | .call { callee := .value (.func f), args, .. } => ⟨callS f (evsB args.toList).f (putF n o.dst).f rest.f⟩
  | .call { callee := .value f, args, .. } => ⟨callD (evB f).f (evsB args.toList).f (putF n o.dst).f rest.f⟩
  | _ => ⟨thenC (opB P o).f (putF n o.dst).f rest.f⟩
noncomputable def stepB (P : Program) (n : Nat) (ops : Array Oper) (o : Oper) (rest : Bx CodeT) : Bx CodeT :=
  match o.guard with
  | none => oneB P n o rest
  | some (j, want) => match (ops[j]?).bind (·.dst) with
    | some d => ⟨guardC (evB (.tmp d)).f want.toNat (oneB P n o rest).f (skipC (putF n o.dst).f rest.f)⟩
    | none => ⟨skipC (putF n o.dst).f rest.f⟩
noncomputable def opsB (P : Program) (n : Nat) (ops : Array Oper) : List Oper → Bx CodeT
  | [] => ⟨fun _ t h k => k 0 0 t h⟩
  | o :: l => stepB P n ops o (opsB P n ops l)

/-- What an operation may do: 0 yield a value, 1 make an object, 2 more. -/
def clsO : Op → Nat
  | .move _ | .pick .. | .load .. | .nilCheck _ | .binOp .. | .unOp .. | .makeFunc .. | .slice .. | .fieldAddr .. | .field .. | .indexAddr .. | .index .. | .lookup .. | .entry _ | .extract .. | .build .. => 0
  | .alloc _ | .box .. | .buildSlice .. | .makeMap .. | .makeSlice .. => 1
  | .call { callee := .builtin .append, .. } => 2
  | .call { callee := .builtin _, .. } => 0
  | _ => 2
/-- An operation of a region that draws its order: its number, what must lie ahead of it. -/
structure PS where
  i : Nat
  o : Oper
  m : Nat
def maskE (acc : List Nat) : List Edge → Nat
  | [] => 0
  | e :: es => match Region.binds .any e with
    | true => 2 ^ e.on ||| (acc.getD e.on 0 ||| maskE acc es)
    | false => maskE acc es
def itemsGo : Nat → List Nat → List Oper → List PS
  | _, _, [] => []
  | i, acc, o :: l => ⟨i, o, maskE acc o.after.toList⟩ :: itemsGo (i + 1) (acc ++ [maskE acc o.after.toList]) l
def tmpsOf (l : List Operand) : List Nat := l.filterMap fun x => match x with | .tmp t => some t | _ => none
/-- The temporaries that an operation looks at. -/
def seenBy (ops : Array Oper) (o : Oper) : List Nat :=
  (match o.guard with | some (j, _) => ((ops[j]?).bind (·.dst)).toList | none => []) ++ tmpsOf o.op.operands.toList
def subM (m c : Nat) : Bool := Nat.beq (m &&& c) m
def pickP (c : Nat) : List PS → Option PS
  | [] => none
  | p :: l => match Nat.blt (clsO p.o.op) 2 && subM p.m c with
    | true => some p
    | false => pickP c l
def planGo : Nat → Nat → List PS → List PS
  | 0, _, _ => []
  | n + 1, c, l => match pickP c l with
    | some p => p :: planGo n (c ||| 2 ^ p.i) (l.filter fun q => !Nat.beq q.i p.i)
    | none => match l with
      | [] => []
      | p :: l => p :: planGo n (c ||| 2 ^ p.i) l
/-- Whether two values are one (cells within cells, three deep). -/
noncomputable def avEqB (x y : AV) (l : Bool) : Bool := ifB (Nat.beq x.tag y.tag) (ifB (Nat.beq x.a y.a) (ifB (Nat.beq x.b y.b) (ifB (Nat.beq x.c y.c) (ifB (Nat.beq x.d y.d) (ifB (Nat.beq x.e y.e) (ifB (intEq x.i y.i) (ifB (strEq x.s y.s) l false) false) false) false) false) false) false) false
noncomputable def avEq1 (x y : AV) : Bool := avEqB x y (List.casesOn x.l (List.casesOn y.l true fun _ _ => false) fun _ _ => false)
noncomputable def avsEq (eq : AV → AV → Bool) (l : List AV) : List AV → Bool :=
  List.rec (motive := fun _ => List AV → Bool) (fun m => List.casesOn m true fun _ _ => false) (fun a _ ih m => List.casesOn m false fun b bs => ifB (eq a b) (ih bs) false) l
noncomputable def avEq2 (x y : AV) : Bool := avEqB x y (avsEq avEq1 x.l y.l)
noncomputable def avEq3 (x y : AV) : Bool := avEqB x y (avsEq avEq2 x.l y.l)
noncomputable def avEq (x y : AV) : Bool := avEqB x y (avsEq avEq3 x.l y.l)

/-- An operation with its guard. -/
noncomputable def guardO (P : Program) (ops : Array Oper) (o : Oper) : Bx OpT :=
  match o.guard with
  | none => opB P o
  | some (j, want) => match (ops[j]?).bind (·.dst) with
    | some d => ⟨fun t h k => ifB (Nat.beq ((evB (.tmp d)).f t).tag 1) (ifB (Nat.beq ((evB (.tmp d)).f t).a want.toNat) ((opB P o).f t h k) (k .undef h)) (ifB (Nat.beq ((evB (.tmp d)).f t).tag 8) (k .undef h) none)⟩
    | none => ⟨fun _ h k => k .undef h⟩
noncomputable def softC (f : OpT) (put : Fr → AV → Fr) (rest : CodeT) : CodeT := fun call t h k => optK none (f t h fun v h => some (v, h)) fun p => Prod.rec (motive := fun _ => R) (fun v h => rest call (put t v) h k) p
noncomputable def plainC (f : OpT) (put : Fr → AV → Fr) (rest : CodeT) : CodeT := fun call t h k => optK none (f t h fun v h => some (v, h)) fun p => Prod.rec (motive := fun _ => R) (fun v _ => rest call (put t v) h k) p
/-- What was reckoned is reckoned again. -/
noncomputable def againC (f : OpT) (eq : Fr → AV → Bool) (rest : CodeT) : CodeT := fun call t h k => optK none (f t h fun v h => some (v, h)) fun p => ifB (eq t p.1) (rest call t h k) none
noncomputable def eqT (d : Option Tmp) : Bx (Fr → AV → Bool) :=
  match d with
  | none => ⟨fun _ _ => true⟩
  | some d => ⟨fun t v => avEq v ((evB (.tmp d)).f t)⟩
noncomputable def againB (P : Program) (ops : Array Oper) (rest : Bx CodeT) : List PS → Bx CodeT
  | [] => rest
  | p :: l => ⟨againC (guardO P ops p.o).f (eqT p.o.dst).f (againB P ops rest l).f⟩
noncomputable def planB (P : Program) (n : Nat) (ops : Array Oper) : List PS → List PS → Bx CodeT
  | _, [] => ⟨fun _ t h k => k 0 0 t h⟩
  | done, p :: l => match clsO p.o.op with
    | 0 => ⟨plainC (guardO P ops p.o).f (putF n p.o.dst).f (planB P n ops (p :: done) l).f⟩
    | 1 => ⟨softC (guardO P ops p.o).f (putF n p.o.dst).f (planB P n ops done l).f⟩
    | _ => stepB P n ops p.o (againB P ops (planB P n ops done l) (done.filter fun q => !Nat.testBit p.m q.i))
def namesT (ops : Array Oper) (d : Option Tmp) (q : PS) : Bool :=
  match d with
  | none => false
  | some d => q.o.dst == some d || (seenBy ops q.o).elem d
def okP (ops : Array Oper) (n : Nat) (all : List PS) : Nat → List PS → Bool
  | c, [] => Nat.beq c (2 ^ ops.size - 1)
  | c, p :: l => subM p.m c && (!Nat.testBit c p.i && ((match p.o.dst with | some d => Nat.blt d n | none => true) && ((match Nat.blt (clsO p.o.op) 2 with
    | true => !(match p.o.dst with | some d => (seenBy ops p.o).elem d | none => false) && all.all fun q => Nat.beq q.i p.i || (!namesT ops p.o.dst q || Nat.testBit q.m p.i)
    | false => (l.all fun q => Nat.testBit q.m p.i) && all.all fun q => Nat.beq q.i p.i || (!namesT ops p.o.dst q || (Nat.testBit q.m p.i || Nat.testBit p.m q.i))) && okP ops n all (c ||| 2 ^ p.i) l)))
--{PLANF
/-- An operation of a drawn region, in written numbers: its place, what lies ahead of it, the temporaries that it names. -/
structure QI where
  i : Nat
  m : Nat
  nm : Nat
noncomputable def bitN (m i : Nat) : Nat := Nat.land 1 (Nat.shiftRight m i)
noncomputable def maskL (l : List Nat) : Nat := List.rec (motive := fun _ => Nat) 0 (fun a _ r => Nat.lor (Nat.pow 2 a) r) l
noncomputable def nmOf (ops : Array Oper) (q : PS) : Nat := maskL (q.o.dst.toList ++ seenBy ops q.o)
noncomputable def cmpQ (ops : Array Oper) (its : List PS) : (List QI → Bool) → Bool :=
  List.rec (motive := fun _ => (List QI → Bool) → Bool) (fun k => k []) (fun p _ ih k => litN p.i fun i => litN p.m fun m => litN (nmOf ops p) fun nm => ih fun l => k (⟨i, m, nm⟩ :: l)) its
noncomputable def allS (d pi : Nat) (qs : List QI) : Bool :=
  List.rec (motive := fun _ => Bool) true (fun q _ ih => bitK (bitN q.nm d) ih (bitK (bitN q.m pi) (ifB (Nat.beq q.i pi) ih false) ih)) qs
noncomputable def allH (d pi pm : Nat) (qs : List QI) : Bool :=
  List.rec (motive := fun _ => Bool) true (fun q _ ih => bitK (bitN q.nm d) ih (bitK (bitN q.m pi) (bitK (bitN pm q.i) (ifB (Nat.beq q.i pi) ih false) ih) ih)) qs
noncomputable def laterH (pi : Nat) (l : List PS) : Bool :=
  List.rec (motive := fun _ => Bool) true (fun q _ ih => bitK (bitN q.m pi) false ih) l
noncomputable def okQ1 (ops : Array Oper) (n : Nat) (qs : List QI) (p : PS) (l : List PS) (pi pm : Nat) (next : Bool) : Bool :=
  Option.rec (motive := fun _ => Bool) (ifB (Nat.blt (clsO p.o.op) 2) next (ifB (laterH pi l) next false))
    (fun d => litN d fun d => ifB (Nat.blt d n) (ifB (Nat.blt (clsO p.o.op) 2) (ifB ((seenBy ops p.o).elem d) false (ifB (allS d pi qs) next false)) (ifB (laterH pi l) (ifB (allH d pi pm qs) next false) false)) false) p.o.dst
noncomputable def okQ (ops : Array Oper) (n : Nat) (qs : List QI) (l : List PS) : Nat → Bool :=
  List.rec (motive := fun _ => Nat → Bool) (fun c => Nat.beq c (2 ^ ops.size - 1)) (fun p l ih c => litN p.i fun pi => litN p.m fun pm =>
    ifB (Nat.beq (Nat.land pm c) pm) (bitK (bitN c pi) (okQ1 ops n qs p l pi pm (litN (Nat.lor c (Nat.pow 2 pi)) fun c => ih c)) false) false) l
/-- The plan's test, quick. -/
noncomputable def okF (ops : Array Oper) (n : Nat) (all : List PS) (l : List PS) : Bool := cmpQ ops all fun qs => okQ ops n qs l 0
structure PQ where
  p : PS
  s : Nat
  m : Nat
  b : Nat
noncomputable def softN (p : PS) : Nat := ifB (Nat.blt (clsO p.o.op) 2) 1 0
noncomputable def cmpP (its : List PS) : (List PQ → List PS) → List PS :=
  List.rec (motive := fun _ => (List PQ → List PS) → List PS) (fun k => k []) (fun p _ ih k => litN p.m fun m => litN (Nat.pow 2 p.i) fun b => litN (softN p) fun s => ih fun l => k (⟨p, s, m, b⟩ :: l)) its
noncomputable def pickQ (c : Nat) (l : List PQ) : List PS → (PQ → List PQ → List PS) → List PS :=
  List.rec (motive := fun _ => List PS → (PQ → List PQ → List PS) → List PS) (fun no _ => no) (fun q t ih no yes => bitK q.s (ih no fun p r => yes p (q :: r)) (ifB (Nat.beq (Nat.land q.m c) q.m) (yes q t) (ih no fun p r => yes p (q :: r)))) l
noncomputable def planQ (n : Nat) : Nat → List PQ → List PS :=
  Nat.rec (motive := fun _ => Nat → List PQ → List PS) (fun _ _ => []) (fun _ ih c l => pickQ c l (List.rec (motive := fun _ => List PS) [] (fun q t _ => q.p :: litN (Nat.lor c q.b) fun c => ih c t) l) (fun q r => q.p :: litN (Nat.lor c q.b) fun c => ih c r)) n
/-- The plan, quick. -/
noncomputable def planF (n c : Nat) (its : List PS) : List PS := cmpP its fun l => planQ n c l
--}PLANF
/-- The edges go back. -/
def okE : Nat → List Oper → Bool
  | _, [] => true
  | i, o :: l => (o.after.toList.all fun e => !Region.binds .any e || Nat.blt e.on i) && okE (i + 1) l
noncomputable def drawB1 (P : Program) (n : Nat) (ops : Array Oper) (no : Bx CodeT) : Bx CodeT :=
  match planF ops.size 0 (itemsGo 0 [] ops.toList) with
  | pl => match okF ops n (itemsGo 0 [] ops.toList) pl with
    | true => planB P n ops [] pl
    | false => no

/-- A map literal whose entries are laid in any order: the map's temporary; how an entry is laid. -/
structure LitP where
  tm : Tmp
  ty : TypeId
  kt : Nat
def litOf (P : Program) (o : Oper) : Option LitP :=
  match o.op, o.dst, o.guard with
  | .makeMap ty none, some d, none => match P.underlying ty with
    | some (.map kt _) => (keyTag (P.underlying kt)).map fun T => ⟨d, ty, T⟩
    | _ => none
  | _, _, _ => none
def lateOf (q : LitP) (o : Oper) : Option (Value × Operand) :=
  match o.op, o.dst, o.guard with
  | .insert ty (.tmp d) (.const k) v, none, none => match Nat.beq ty q.ty && Nat.beq d q.tm with
    | true => some (k, v)
    | false => none
  | _, _, _ => none
def dummyO (o : Oper) : Oper := { o with op := .move (.const undef), dst := none, guard := none }
def isLate (q : LitP) (o : Oper) : Bool := (lateOf q o).isSome
def litItem (q : LitP) (p : PS) : PS := match isLate q p.o with | true => ⟨p.i, dummyO p.o, p.m⟩ | false => p
/-- The keys are of one kind, and apart. -/
def keysOk (T : Nat) : List Value → Bool
  | [] => true
  | k :: l => Nat.beq (ofV k).tag T && ((l.all fun k' => Nat.beq (ofV k').a (ofV k).a && !keySame T (ofV k) (ofV k')) && keysOk T l)
where keySame (T : Nat) (x y : AV) : Bool := match T with | 0 => x.i == y.i | _ => x.s == y.s
/-- What an entry looks at stays. -/
def okL (q : LitP) (ops : Array Oper) (its pl : List PS) : Bool :=
  (pl.all fun p => !(p.o.dst == some q.tm)) && (its.all fun l => !isLate q l.o || (Nat.testBit l.m 0 && pl.all fun p => match p.o.dst with
    | some d => !(seenBy ops l.o).elem d || Nat.testBit l.m p.i
    | none => true))
def litKV (q : LitP) (l : List PS) : List (Value × Operand) := l.filterMap fun p => lateOf q p.o
noncomputable def litEs : List (Value × Operand) → Bx (Fr → List ME)
  | [] => ⟨fun _ => []⟩
  | (k, v) :: l => ⟨fun t => ⟨ofV k, (evB v).f t, 0⟩ :: (litEs l).f t⟩
noncomputable def litC (put : Fr → AV → Fr) (tm : Fr → AV) (body : CodeT) (es : Fr → List ME) : CodeT := fun call t h k =>
  body call (put t (.map h.next)) ⟨h.t, h.next + 1⟩ fun _ _ t h => k 0 0 t (h.put (tm t).b (some (.lit (es t))))
noncomputable def litB (P : Program) (n : Nat) (ops : Array Oper) : Bx CodeT :=
  match itemsGo 0 [] ops.toList with
  | [] => ⟨fun _ _ _ _ => none⟩
  | z :: its => match litOf P z.o with
    | none => ⟨fun _ _ _ _ => none⟩
    | some q => match planF ops.size 1 (its.map (litItem q)) with
      | pl => match okF ops n (z :: its.map (litItem q)) (z :: pl) && okL q ops its (its.map (litItem q)) && keysOk q.kt ((litKV q its).map (·.1)) with
        | true => ⟨litC (putF n (some q.tm)).f (evB (.tmp q.tm)).f (planB P n ops [] pl).f (litEs (litKV q its)).f⟩
        | false => ⟨fun _ _ _ _ => none⟩
noncomputable def drawB (P : Program) (n : Nat) (ops : Array Oper) : Bx CodeT :=
  match okE 0 ops.toList with
  | true => drawB1 P n ops (litB P n ops)
  | false => ⟨fun _ _ _ _ => none⟩

noncomputable def seqC (a b : CodeT) : CodeT := fun call t h k => a call t h fun x o t h => ifB (Nat.beq x 0) (b call t h k) (k x o t h)
noncomputable def condC (c : Fr → AV) (a b : CodeT) : CodeT := fun call t h k => ifB (Nat.beq (c t).tag 1) (ifB (Nat.beq (c t).a 1) (a call t h k) (b call t h k)) none
noncomputable def blockC (id : Nat) (b : CodeT) : CodeT := fun call t h k => b call t h fun x o t h => ifB (Nat.beq x 1) (ifB (Nat.beq o id) (k 0 0 t h) (k x o t h)) (k x o t h)
noncomputable def loopC (b : CodeT) : CodeT := fun call t h k => loopK none (fun t h k => b call t h k) 100000 t h k

/-- A range over a function: the record of the loop is laid; the function is called; what a round left is done. -/
noncomputable def rangeFC (n : Nat) (f : Fr → AV) (ps : List Tmp) (asg body : Code) : CodeT := fun call t h k => ifB (Nat.beq (f t).a 1)
  (valK call (f t) [.yield h.next] (h.new (.loop 0 0 0 (n, t, ps, asg, body))) fun _ h2 => optK none (h2.get h.next) fun o => ifB (Nat.beq o.kind 4) (ifB (Nat.beq o.m 1) none
    (optK none o.lp fun lp => nthN o.ns fun x => k o.n x t (h2.put h.next (some (.loop o.n x 3 lp))))) none) none

/-- A range over a map whose entries may come in any order: the iterator, what 'next', its flag and 'entry' are put into; what is done with an entry; where. -/
structure AnyP where
  it : Nat
  n1 : Nat
  c : Nat
  e1 : Nat
  o21 : Array Oper
  tail : List Oper
  id2 : Nat
  rest : Code
def anyOps (id : Nat) (o20 o21 : Array Oper) (c id' id2 : Nat) (rest : Code) : Option AnyP :=
  match o20.toList, o21.toList with
  | [a, b], e :: tail => match a.op, b.op, e.op, a.dst, b.dst, e.dst, a.guard, b.guard, e.guard with
    | .next (.tmp it) false, .extract (.tmp m1) 0, .entry (.tmp it'), some n1, some c', some e1, none, none, none =>
      match Nat.beq it it' && Nat.beq m1 n1 && Nat.beq c c' && Nat.beq id id' && !Nat.beq it n1 && !Nat.beq it c && !Nat.beq c n1 with
      | true => some ⟨it, n1, c, e1, o21, tail, id2, rest⟩
      | false => none
    | _, _, _, _, _, _, _, _, _ => none
  | _, _ => none
def anyShape (id : Nat) : Code → Option AnyP
  | .loop (.seq (.region _ o20 false) (.seq (.cond (.tmp c) .skip (.exit id')) (.block id2 (.seq (.region _ o21 false) rest)))) => anyOps id o20 o21 c id' id2 rest
  | _ => none
def dstsL (l : List Oper) : List Nat := l.filterMap (·.dst)
/-- What code writes and looks at. -/
def dstsC : Code → List Nat
  | .region _ ops _ => dstsL ops.toList
  | .seq a b | .cond _ a b => dstsC a ++ dstsC b
  | .block _ b | .loop b => dstsC b
  | _ => []
def seenC : Code → List Nat
  | .region _ ops _ => ops.toList.flatMap fun o => tmpsOf o.op.operands.toList
  | .seq a b => seenC a ++ seenC b
  | .cond c a b => tmpsOf [c] ++ (seenC a ++ seenC b)
  | .block _ b | .loop b => seenC b
  | _ => []
/-- The maps that code may look at, alone in memory. -/
noncomputable def mapsK (h : AH) (t : Fr) (g : AH) (l : List Nat) : AH :=
  List.rec (motive := fun _ => AH) g (fun i _ ih => ifB (Nat.beq ((evB (.tmp i)).f t).tag 5) (ifB (Nat.beq ((evB (.tmp i)).f t).a 1) (optK ih (h.get ((evB (.tmp i)).f t).b) fun o => ifB (Nat.beq o.kind 1) (AH.put ih ((evB (.tmp i)).f t).b (some o)) ih) ih) ih) l
noncomputable def junkK (t : Fr) (l : List Nat) : Fr := List.rec (motive := fun _ => Fr) t (fun i _ ih => ifB (Nat.blt i 512) ((setF i).f ih .junk) ih) l

noncomputable def meEq (x y : ME) : Bool := ifB (avEq1 x.key y.key) (ifB (avEq1 x.val y.val) (Nat.beq x.born y.born) false) false
noncomputable def mesEq (l : List ME) : List ME → Bool :=
  List.rec (motive := fun _ => List ME → Bool) (fun m => List.casesOn m true fun _ _ => false) (fun a _ ih m => List.casesOn m false fun b bs => ifB (meEq a b) (ih bs) false) l
noncomputable def mapEq (x y : Option OB) : Bool :=
  Option.casesOn x false fun a => Option.casesOn y false fun b => ifB (Nat.beq a.kind 1) (ifB (Nat.beq b.kind 1) (ifB (Nat.beq a.n b.n) (mesEq a.es b.es) false) false) false
/-- The maps that were looked at stay. -/
noncomputable def sameMaps (h g : AH) (t : Fr) (l : List Nat) : Bool :=
  List.rec (motive := fun _ => Bool) true (fun i _ ih => ifB (Nat.beq ((evB (.tmp i)).f t).tag 5) (ifB (Nat.beq ((evB (.tmp i)).f t).a 1) (ifB (mapEq (h.get ((evB (.tmp i)).f t).b) (g.get ((evB (.tmp i)).f t).b)) ih false) ih) ih) l
/-- Temporaries below n that are not of l stay. -/
noncomputable def sameT (t u : Fr) (l : List Nat) (n : Nat) : Bool :=
  Nat.rec (motive := fun _ => Bool) true (fun i ih => ifB (l.elem i) ih (ifB (avEq ((evB (.tmp i)).f t) ((evB (.tmp i)).f u)) ih false)) n
/-- What an entry's walk leaves of its own object. -/
noncomputable def anyOneK (q : AnyP) (J sh : List Nat) (n : Nat) (body : CodeT) (call : CallT) (t : Fr) (h : AH) (e : ME) (k : OB → R) : R :=
  ifB (Nat.beq e.val.tag 4) (ifB (Nat.beq e.val.a 1) (optK none (h.get e.val.b) fun o => ifB (Nat.beq o.kind 0)
    (optK none (body call ((putF n (some q.e1)).f ((putF n (some q.c)).f ((putF n (some q.n1)).f (junkK t J) (.tup [.bool true, e.key, e.val])) (.bool true)) (.tup [e.key, e.val])) (AH.put (mapsK h t ⟨.nil, h.next⟩ sh) e.val.b (some o)) fun y x t' h' =>
      ifB (ifB (Nat.beq y 0) true (ifB (Nat.beq y 1) (Nat.beq x q.id2) false)) (ifB (Nat.beq h'.next h.next) (ifB (sameT (junkK t J) t' J n) (ifB (sameMaps h' h t sh) (some (.undef, h')) none) none) none) none)
      fun p => optK none (p.2.get e.val.b) k) none) none) none
noncomputable def anyAllK (one : ME → (OB → R) → R) (l : List ME) : AH → (AH → R) → R :=
  List.rec (motive := fun _ => AH → (AH → R) → R) (fun h k => k h) (fun e _ ih h k => one e fun o => ih (h.put e.val.b (some o)) k) l
noncomputable def ownsOk (l : List ME) : Bool :=
  List.rec (motive := fun _ => Bool) true (fun e l ih => ifB (l.all fun f => !Nat.beq f.val.b e.val.b && !Nat.beq f.born e.born) ih false) l
noncomputable def anyTest (h : AH) (p : AV) : Bool := ifB (Nat.beq p.tag 3) (ifB (Nat.beq p.a 1) (Option.casesOn (h.get p.b) false fun r => ifB (Nat.beq r.kind 3) (List.casesOn r.ns (Option.casesOn (h.get r.n) false fun m => ifB (Nat.beq m.kind 1) (Nat.ble 2 m.es.length) false) fun _ _ => false) false) false) false
noncomputable def anyC (q : AnyP) (J sh : List Nat) (n : Nat) (body ordinary : CodeT) : CodeT := fun call t h k => ifB (anyTest h ((evB (.tmp q.it)).f t))
  (iterK h ((evB (.tmp q.it)).f t) fun r m => ifB (ownsOk m.es && !J.elem q.it && (List.casesOn r.ns true fun _ _ => false) && (Option.casesOn ((mapsK h t ⟨.nil, h.next⟩ sh).get r.n) true fun _ => false)) (anyAllK (anyOneK q J sh n body call t h) m.es (h.put ((evB (.tmp q.it)).f t).b none) fun h' => k 0 0 (junkK t J) h') none)
  (ordinary call t h k)

noncomputable def codeG (P : Program) (n : Nat) (rd : Bool) (blk : Nat → Code → Bx CodeT → Bx CodeT) : Code → Bx CodeT
  | .rangeFunc g ps asg body => match rd with
    | false => ⟨rangeFC n (evB g).f ps.toList asg body⟩
    | true => ⟨fun _ _ _ _ => none⟩
  | .skip => ⟨fun _ t h k => k 0 0 t h⟩
  | .region _ ops false => opsB P n ops ops.toList
  | .region _ ops true => drawB P n ops
  | .seq a b => ⟨seqC (codeG P n rd blk a).f (codeG P n rd blk b).f⟩
  | .cond c a b => ⟨condC (evB c).f (codeG P n rd blk a).f (codeG P n rd blk b).f⟩
  | .block id b => blk id b (codeG P n rd blk b)
  | .loop b => ⟨loopC (codeG P n rd blk b).f⟩
  | .exit id => ⟨fun _ t h k => k 1 id t h⟩
  | .ret => ⟨fun _ t h k => k 2 0 t h⟩
  | _ => ⟨fun _ _ _ _ => none⟩

noncomputable def codeB0 (P : Program) (n : Nat) (rd : Bool) (c : Code) : Bx CodeT := codeG P n rd (fun id _ b => ⟨blockC id b.f⟩) c
noncomputable def blkB (P : Program) (n : Nat) (rd : Bool) (id : Nat) (b : Code) (bb : Bx CodeT) : Bx CodeT :=
  match anyShape id b with
  | some q => match Nat.blt q.n1 n && Nat.blt q.c n with
    | true => ⟨anyC q (q.n1 :: q.c :: q.e1 :: (dstsL q.tail ++ dstsC q.rest)) ((q.tail.flatMap fun o => tmpsOf o.op.operands.toList) ++ seenC q.rest) n (seqC (opsB P n q.o21 q.tail).f (codeB0 P n rd q.rest).f) (blockC id bb.f)⟩
    | false => ⟨blockC id bb.f⟩
  | none => ⟨blockC id bb.f⟩
noncomputable def codeB (P : Program) (n : Nat) (rd : Bool) (c : Code) : Bx CodeT := codeG P n rd (blkB P n rd) c

noncomputable def resB (P : Program) : List ResultVar → Bx (Fr → AH → (List AV → R) → R)
  | [] => ⟨fun _ _ k => k []⟩
  | .tmp i :: rest => ⟨fun t h k => (resB P rest).f t h fun l => k ((evB (.tmp i)).f t :: l)⟩
  | .cell i ty :: rest => ⟨fun t h k => cellsK h ((evB (.tmp i)).f t) fun o => (partB P ty).f o.cs ((evB (.tmp i)).f t).c fun v => (resB P rest).f t h fun l => k (v :: l)⟩
def tupA : List AV → AV
  | [v] => v
  | vs => .tup vs

/-- The arguments in the first slots. -/
noncomputable def argsB : Nat → Nat → Bx (Fr → List AV → (Fr → R) → R)
  | _, 0 => ⟨fun t l k => List.casesOn l (k t) fun _ _ => none⟩
  | i, n + 1 => ⟨fun t l k => List.casesOn l none fun v l => (argsB (i + 1) n).f ((setF i).f t v) l k⟩

structure FnB where
  run : CallT → List AV → AH → KV → R
noncomputable def bodyC (args : Fr → List AV → (Fr → R) → R) (body : CodeT) (res : Fr → AH → (List AV → R) → R) : CallT → List AV → AH → KV → R := fun call xs h k =>
  args frame0 xs fun t => body call t h fun x _ t h => ifB (Nat.beq x 1) none (res t h fun l => k (tupA l) h)
noncomputable def fnB (P : Program) (f : Nat) : FnB :=
  match funK P f with
  | some fn => match fn.body with
    | some c => match fn.name == "runtime.NumGoroutine" || Nat.ble 512 fn.ntmps || !Nat.ble (fn.params.size + fn.nfree) fn.ntmps with
      | true => ⟨fun _ _ _ _ => none⟩
      | false => ⟨bodyC (argsB 0 (fn.params.size + fn.nfree)).f (codeB P fn.ntmps false c).f (resB P fn.results.toList).f⟩
    | none => ⟨fun _ _ _ _ => none⟩
  | none => ⟨fun _ _ _ _ => none⟩

/-- The parameters of a round. -/
noncomputable def setTs (n : Nat) : List Tmp → Bx (Fr → List AV → (Fr → R) → R)
  | [] => ⟨fun t l k => List.casesOn l (k t) fun _ _ => none⟩
  | p :: ps => ⟨fun t l k => List.casesOn l none fun v l => (setTs n ps).f ((putF n (some p)).f t v) l k⟩
noncomputable def roundK (P : Program) (call : CallT) (l : Nat) (xs : List AV) (h : AH) (k : KV) : R :=
  optK none (h.get l) fun o => ifB (Nat.beq o.kind 4) (optK none o.lp fun lp => (setTs lp.1 lp.2.2.1).f lp.2.1 xs fun t =>
    (codeB P lp.1 true lp.2.2.2.1).f call t h fun y _ t h => ifB (Nat.beq y 0) (optK none (h.get l) fun o => ifB (Nat.beq o.kind 4) (ifB (Nat.beq o.m 0) (optK none o.lp fun lp2 => nthN o.ns fun e =>
      (codeB P lp.1 true lp.2.2.2.2).f call t (h.put l (some (.loop o.n e 1 lp2))) fun y e _ h => optK none (h.get l) fun o => ifB (Nat.beq o.kind 4) (optK none o.lp fun lp3 =>
        k (.bool (Nat.beq y 0)) (h.put l (some (.loop y e (ifB (Nat.beq y 0) 0 2) lp3)))) none) none) none) none) none
noncomputable def callK (P : Program) (n : Nat) : CallT :=
  Nat.rec (motive := fun _ => CallT) ⟨fun _ _ _ _ => none, fun _ _ _ _ => none⟩ (fun _ call => ⟨fun f xs h k => (fnB P f).run call xs h k, fun l xs h k => roundK P call l xs h k⟩) n

end Go.Proofs.YtinpopjnnljkhaaGreatDoor
