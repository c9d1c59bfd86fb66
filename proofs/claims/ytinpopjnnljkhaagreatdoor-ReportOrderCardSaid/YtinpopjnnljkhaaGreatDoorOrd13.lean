/- ReportOrder: the law returns true for every source and every diagnostics. Part 13 of 17. -/
import Derived.Test.YtinpopjnnljkhaaGreatDoorOrd12
import Derived.Laws.MakeOwn
import Derived.Laws.OwnMore
/- The law ReportOrder, walked. -/
namespace Go.Proofs.YtinpopjnnljkhaaGreatDoor
open Go.RowKit

theorem bool_info : (Tryz.prog.info? 4).map (fun i => (i.zero, i.size, i.bytes)) = some (some (.bool false), 1, 1) := by kernel_rfl
theorem run_make_bools (n : Nat) (hn : n ≤ 1000000) (w : World) :
    (Instr.makeSlice 32 (.int .i64 (n : Int)) (.int .i64 (n : Int))).run Tryz.prog w = .ok (.slice (some ⟨w.heap.size, 0, none⟩) n n) (w.alloc (.cells (Array.replicate n (.bool false)) 4)) := by
  obtain ⟨i0, hi0, hz0, hz1, hz2⟩ := info_parts bool_info
  have h := run_make (P := Tryz.prog) w 32 4 i0 _ Tryz.underlying32 hi0 hz0 .i64 .i64 n n (by omega) (by omega) (by rw [hz2]; omega) (by omega)
  rw [h]
  simp only [Int.toNat_natCast, hz1, Nat.mul_one]
  have h2 : madeCells (Value.bool false).cells n = Array.replicate n (.bool false) := by
    apply Array.ext'
    rw [show (Value.bool false).cells = #[.bool false] from rfl, toList_madeCells_one]
    simp
  rw [h2]
/-- The row of those that have come. -/
def usedC (S : List Rd) (n i : Nat) : Array Value := ((List.range n).map fun k => Value.bool (decide (k ∈ doneM S i))).toArray
theorem usedC_get {S : List Rd} {n i k : Nat} (h : k < n) : (usedC S n i)[k]? = some (.bool (decide (k ∈ doneM S i))) := by
  unfold usedC
  simp [h]
theorem usedC_zero (S : List Rd) (n : Nat) : Array.replicate n (Value.bool false) = usedC S n 0 := by
  apply Array.ext'
  unfold usedC doneM
  simp [List.map_const']
theorem usedC_succ {S : List Rd} {n i : Nat} {z : Rd} (h : S[i]? = some z) (_hz : z.tag < n) : (usedC S n i).setIfInBounds z.tag (.bool true) = usedC S n (i + 1) := by
  apply Array.ext'
  apply List.ext_getElem?
  intro k
  unfold usedC
  rw [doneM_succ h]
  by_cases hk : k < n
  · by_cases hkz : z.tag = k
    · subst hkz
      simp [hk]
    · have : ¬ k = z.tag := fun e => hkz e.symm
      simp [hk, hkz, this]
  · simp [hk]
theorem slice_from (W : World) (A : Option Addr) (len cap k : Nat) (hk : k ≤ len) : (Instr.slice 24 (.slice A len cap) (some (.int .i64 (k : Int))) none none).run Tryz.prog W = .ok (.slice (if cap = k then A else A.map (·.add (k * 1))) (len - k) (cap - k)) W := by
  obtain ⟨i0, hi0, hz0, hz1, hz2⟩ := info_parts str_info
  have := run_slice_from (P := Tryz.prog) (w := W) 24 9 i0 Tryz.underlying24 hi0 A len cap k hk
  rw [hz1] at this
  exact this
theorem slice_upto {P : Program} (w : World) (t e : TypeId) (i : TypeInfo) (ht : P.underlying t = some (.slice e)) (hi : P.info? e = some i) (a : Option Addr) (len cap hi_ : Nat) (h2 : hi_ ≤ cap) :
    (Instr.slice t (.slice a len cap) none (some (.int .i64 (hi_ : Int))) none).run P w = .ok (.slice (if cap = 0 then a else a.map (·.add 0)) hi_ cap) w := by
  simp [Instr.slice, run_underlying ht, Instr.sliceBounds, Instr.sliceBound, asIntOf, sizeOf, typeInfo, hi]
  exact fun h => absurd h (by omega)
theorem addr0 (A : Option Addr) (c : Nat) : (if c = 0 then A else A.map (·.add 0)) = A := by
  split
  · rfl
  · cases A <;> rfl
theorem slice_to (W : World) (A : Option Addr) (len cap k : Nat) (hk : k ≤ cap) : (Instr.slice 24 (.slice A len cap) none (some (.int .i64 (k : Int))) none).run Tryz.prog W = .ok (.slice (if cap = 0 then A else A.map (·.add 0)) k cap) W := by
  obtain ⟨i0, hi0, hz0, hz1, hz2⟩ := info_parts str_info
  exact slice_upto (P := Tryz.prog) W 24 9 i0 Tryz.underlying24 hi0 A len cap k hk

set_option maxHeartbeats 16000000 in
set_option maxRecDepth 100000 in
theorem lawOrd_any (s : ByteArray) (A : Option Addr) (n c : Nat) (xs : List Rd) (w : World) (hX : RowAt 5 rdCells w w.heap.size A xs) (hc : ∀ x ∈ xs, ChAt w w.heap.size x) (hl : xs.length = n) (ht : Tagged xs) (hok : ∀ x ∈ xs, okI x.dg.at_ ∧ okI x.dg.fin ∧ okI x.dg.code) (hTab : TabOk w) (hss : s.size ≤ maxLen) (hnn : n ≤ maxLen) (hcn : ∀ x ∈ xs, x.n ≤ maxLen) (hcs : ∀ x ∈ xs, x.dg.text.size ≤ maxLen ∧ ∀ y ∈ x.dg.chain, y.text.size ≤ maxLen) :
    Calls Tryz.prog 4 #[.string s, .slice A n c] w fun e w' => e = .returned (.bool true) ∧ Below w.heap.size w w' := by
  have HAW := Lib.hid (awake_any w)
  have HFEW := Lib.hid (fun (w' : World) (h : Below w.heap.size w w') => few_any A n c xs w' ((hX.below h (Nat.le_refl _)).mono h.size) (fun x hx => ⟨(hc x hx).1, ((hc x hx).2.below h (Nat.le_refl _)).mono h.size⟩) hl hnn hcn hcs)
  unfold maxLen at hss hnn
  have HX := Lib.hid hX
  have HC := Lib.hid hc
  have HL := Lib.hid hl
  have HT := Lib.hid ht
  have HOK := Lib.hid hok
  have HTAB := Lib.hid hTab
  clear hX hc hl hok hTab ht hcn hcs
  by_cases hs : s.size ≤ 1500
  case neg =>
    have hsi : (1500 : Int) < (s.size : Int) := by omega
    go_enter Tryz.func4, Tryz.ntmps4
    go_wp2_with fail
    refine HAW.out.mono ?_
    rintro e w1 ⟨rfl, hb1⟩
    have HB1 := Lib.hid hb1
    clear hb1
    go_wp2_with fail
    go_ret
    exact ⟨rfl, HB1.out⟩
  have hsi : ¬ (1500 : Int) < (s.size : Int) := by omega
  go_enter Tryz.func4, Tryz.ntmps4
  go_wp2_with fail
  refine HAW.out.mono ?_
  rintro e w1 ⟨rfl, hb1⟩
  have HB1 := Lib.hid hb1
  clear hb1
  go_wp2_with fail
  refine (HFEW.out _ HB1.out).mono ?_
  rintro e w2 ⟨⟨b, rfl, hbt⟩, hb2⟩
  have HBT := Lib.hid hbt
  have HB2 := Lib.hid (HB1.out.trans (hb2.mono HB1.out.size))
  clear hb2 hbt
  cases b
  · go_wp2_with fail
    go_ret
    exact ⟨rfl, HB2.out⟩
  obtain ⟨hn20, hfw⟩ := HBT.out rfl
  have HFW := Lib.hid hfw
  have HD := Lib.hid (Diagnostics_any s A n c xs w2 hs HL.out hn20 HT.out.up ((HX.out.below HB2.out (Nat.le_refl _)).mono HB2.out.size) (fun x hx => ⟨(HC.out x hx).1, ((HC.out x hx).2.below HB2.out (Nat.le_refl _)).mono HB2.out.size⟩) hfw HOK.out (HTAB.out.below HB2.out))
  have hso := sortedOf HT.out
  have HLL : Hid ((srtD xs.toArray).toList.length = n) := Lib.hid (by rw [srt_len HT.out.up]; exact HL.out)
  obtain ⟨S, hS⟩ : ∃ S, (srtD xs.toArray).toList = S := ⟨_, rfl⟩
  rw [hS] at HD hso HLL
  have HSO := Lib.hid hso
  have hol := outK_len s S (fun x h => (hfw x (hso.perm.mem_iff.1 h)).2.1) n
  rw [← restM_zero] at HD hol
  clear hS hso hfw HBT
  go_wp2_with fail
  refine HD.out.mono ?_
  rintro e w3 ⟨⟨v, rfl, ho⟩, hb3⟩
  have HB3 := Lib.hid (HB2.out.trans (hb3.mono HB2.out.size))
  obtain ⟨A3, c3, rfl, hq1, hq2⟩ := ho.shape
  have hrow := ho.rowAt (cells := strCells) (l := restM s S 0 n) rfl (strV_flat _) (fun _ _ => rfl) rfl
  have HROW := Lib.hid hrow
  clear ho hb3 hrow
  have HMK := Lib.hid (run_make_bools n (by omega))
  obtain ⟨W4, hW4⟩ : ∃ W4, w3.alloc (.cells (Array.replicate n (.bool false)) 4) = W4 := ⟨_, rfl⟩
  have hu4 : Blk W4 w3.heap.size 4 (usedC S n 0) := by rw [← hW4, usedC_zero S n]; exact Blk.new w3 _ _
  have hs4 : W4.heap.size = w3.heap.size + 1 := by rw [← hW4]; simp
  have hb4 : Below w3.heap.size w3 W4 := by rw [← hW4]; exact below_alloc _ _
  obtain ⟨W5, hW5⟩ : ∃ W5, W4.alloc (.cells #[.int .i64 0, .int .i64 0, .int .i64 0, .string ⟨#[]⟩, .slice none 0 0] 35) = W5 := ⟨_, rfl⟩
  have hv5 : Blk W5 W4.heap.size 35 #[.int .i64 0, .int .i64 0, .int .i64 0, .string ⟨#[]⟩, .slice none 0 0] := by rw [← hW5]; exact Blk.new W4 _ _
  have hb5 : Below w3.heap.size w3 W5 := by rw [← hW5]; exact hb4.alloc hb4.size _
  have hu5 : Blk W5 w3.heap.size 4 (usedC S n 0) := by rw [← hW5]; exact hu4.alloc _
  have HU5 := Lib.hid hu5
  have HV5 := Lib.hid hv5
  have HB5 := Lib.hid hb5
  have HS4 := Lib.hid hs4
  clear hu4 hb4 hv5 hb5 hu5 hs4
  go_wp2_with (first | rw [HMK.out] | rw [hW4] | rw [hW5])
  obtain ⟨gu, hgu⟩ : ∃ gu, w3.heap.size = gu := ⟨_, rfl⟩
  obtain ⟨gb, hgb⟩ : ∃ gb, W4.heap.size = gb := ⟨_, rfl⟩
  rw [hgu] at HU5 HS4 HB5 HROW ⊢
  rw [hgb] at HS4 HV5 ⊢
  have HGU := Lib.hid hgu
  clear hgu hgb hW4 hW5 HMK
  go_loopg [5, 31] n (fun gk s5 s31 wr => ∃ (i : Nat) (AL : Option Addr) (cL : Nat), i + gk = n ∧ s31 = .int .i64 i ∧ s5 = .slice AL (restM s S i n).length cL ∧ (restM s S i n).length ≤ cL ∧ (restM s S i n).length ≤ 480 ∧ cL ≤ maxLen ∧ Hid (RowAt 1 strCells w3 gu AL (restM s S i n)) ∧ Hid (Below gu w3 wr ∧ Blk wr gu 4 (usedC S n i)) ∧ Hid (∃ a0 a1 a2 a3 a4, Blk wr gb 35 #[a0, a1, a2, a3, a4] ∧ ∀ z, 0 < i → S[i - 1]? = some z → a1 = .int .i64 z.dg.at_))
  case atStart => exact ⟨0, A3, c3, by omega, rfl, rfl, by omega, by omega, hq2, HROW, Lib.hid ⟨HB5.out, HU5.out⟩, Lib.hid ⟨_, _, _, _, _, HV5.out, fun z h => by omega⟩⟩
  case round =>
    obtain ⟨i, AL, cL, hi, rfl, rfl, hlc, hl480, hcm, HRL, HM, HBB⟩ := hrel
    have hi' : i ≤ n := by omega
    have HI := Lib.hid hi
    clear hi
    obtain ⟨wo, hwo⟩ : ∃ wo : World, wo = wr := ⟨_, rfl⟩
    obtain ⟨gko, hgko⟩ : ∃ g : Nat, g = gk := ⟨_, rfl⟩
    subst hwo hgko
    by_cases hlt : i < n
    · have hii : (i : Int) < (n : Int) := by omega
      have ez : S[i]? = some (S[i]'(by rw [HLL.out]; exact hlt)) := List.getElem?_eq_getElem _
      generalize S[i]'(by rw [HLL.out]; exact hlt) = z at ez
      have HZ := Lib.hid ez
      clear ez
      obtain ⟨RL, hRL⟩ : ∃ RL, restM s S i n = RL := ⟨_, rfl⟩
      rw [hRL] at HRL hlc hl480
      rw [hRL]
      obtain ⟨rl, hrl⟩ : ∃ rl, RL.length = rl := ⟨_, rfl⟩
      rw [hrl] at hlc hl480
      rw [hrl]
      have HRLD := Lib.hid (And.intro hRL hrl)
      clear hRL hrl
      have hgo : gu < wo.heap.size := HM.out.2.lt
      have hwl := HM.out.1.size
      have HBO := Lib.hid (HB3.out.trans (HM.out.1.mono (by rw [← HGU.out]; exact HB3.out.size)))
      go_wp2_with fail
      go_loopg [9, 36] n (fun gk s9 s36 wr => ∃ (k : Nat) (r : Int), k + gk = n ∧ s36 = .int .i64 k ∧ s9 = .int .i64 r ∧ Hid (FoundM xs S i k r) ∧ Below wo.heap.size wo wr)
      case atStart => exact ⟨0, -1, by omega, rfl, rfl, Lib.hid (.inl ⟨rfl, fun j hj => by omega⟩), Below.refl _ _⟩
      case round =>
        obtain ⟨k, r, hk, rfl, rfl, HFD, hB⟩ := hrel
        have hk' : k ≤ n := by omega
        have HK := Lib.hid hk
        have HBr := Lib.hid hB
        have hbs := hB.size
        clear hk
        by_cases hltk : k < n
        · have hki : (k : Int) < (n : Int) := by omega
          have e1 : xs[k]? = some (xs[k]'(by rw [HL.out]; exact hltk)) := List.getElem?_eq_getElem _
          generalize xs[k]'(by rw [HL.out]; exact hltk) = x at e1
          have hXr := HX.out.below (HBO.out.trans (hB.mono HBO.out.size)) (Nat.le_refl _)
          have HXR := Lib.hid hXr
          obtain ⟨b1, o1, hA1, hb1, hc1⟩ := hXr k _ e1
          subst hA1
          have E1 := Lib.hid e1
          have y0 : wr.cell? ⟨b1, o1 + k * 5, none⟩ = some (.int .i64 x.dg.code) := by simpa using hc1 0 _ rfl
          have y1 : wr.cell? ⟨b1, o1 + k * 5 + 1, none⟩ = some (.int .i64 x.dg.at_) := hc1 1 _ rfl
          have y2 : wr.cell? ⟨b1, o1 + k * 5 + 2, none⟩ = some (.int .i64 x.dg.fin) := hc1 2 _ rfl
          have y3 : wr.cell? ⟨b1, o1 + k * 5 + 3, none⟩ = some (.string x.dg.text) := hc1 3 _ rfl
          have y4 : wr.cell? ⟨b1, o1 + k * 5 + 4, none⟩ = some (.slice x.A x.n x.c) := hc1 4 _ rfl
          obtain ⟨W6, hW6⟩ : ∃ W6, wr.alloc (.cells #[.int .i64 x.dg.code, .int .i64 x.dg.at_, .int .i64 x.dg.fin, .string x.dg.text, .slice x.A x.n x.c] 35) = W6 := ⟨_, rfl⟩
          have h6b : Below wr.heap.size wr W6 := by rw [← hW6]; exact below_alloc _ _
          have h6x : Blk W6 wr.heap.size 35 #[.int .i64 x.dg.code, .int .i64 x.dg.at_, .int .i64 x.dg.fin, .string x.dg.text, .slice x.A x.n x.c] := by rw [← hW6]; exact Blk.new wr _ _
          have HB6 := Lib.hid (HBr.out.trans (h6b.mono HBr.out.size))
          have H6X := Lib.hid h6x
          have h6u : Blk W6 gu 4 (usedC S n i) := HM.out.2.below HB6.out hgo
          have H6U := Lib.hid h6u
          have H6R : Hid (RowAt 5 rdCells W6 w.heap.size (some ⟨b1, o1, none⟩) xs) := Lib.hid (HXR.out.below h6b (by have := HBO.out.size; omega))
          clear h6b h6x h6u hc1 e1 hB hXr HXR
          have ha0 : W6.cell? ⟨wr.heap.size, 0, none⟩ = some (.int .i64 x.dg.code) := H6X.out.cell 0
          have ha1 : W6.cell? ⟨wr.heap.size, 1, none⟩ = some (.int .i64 x.dg.at_) := H6X.out.cell 1
          have ha2 : W6.cell? ⟨wr.heap.size, 2, none⟩ = some (.int .i64 x.dg.fin) := H6X.out.cell 2
          have hau : W6.cell? ⟨gu, k, none⟩ = some (.bool (decide (k ∈ doneM S i))) := (H6U.out.cell k).trans (usedC_get hltk)
          by_cases hu : k ∈ doneM S i
          · have hau2 : W6.cell? ⟨gu, k, none⟩ = some (.bool true) := by rw [hau]; simp [hu]
            have HSS : Hid (W6.drew.cell? ⟨gu, k, none⟩ = some (.bool true) ∧ W6.drew.cell? ⟨wr.heap.size, 0, none⟩ = some (.int .i64 x.dg.code) ∧ W6.drew.cell? ⟨wr.heap.size, 1, none⟩ = some (.int .i64 x.dg.at_) ∧ W6.drew.cell? ⟨wr.heap.size, 2, none⟩ = some (.int .i64 x.dg.fin)) := Lib.hid ⟨hau2, ha0, ha1, ha2⟩
            have HU := Lib.hid hu
            clear hau hau2 ha0 ha1 ha2 hu
            as_aux_lemma =>
              go_wp2_with (rw [hW6])
              refine wp_region_HG (fun W' => W'.cell? ⟨gu, k, none⟩ = some (.bool true) ∧ W'.cell? ⟨wr.heap.size, 0, none⟩ = some (.int .i64 x.dg.code) ∧ W'.cell? ⟨wr.heap.size, 1, none⟩ = some (.int .i64 x.dg.at_) ∧ W'.cell? ⟨wr.heap.size, 2, none⟩ = some (.int .i64 x.dg.fin)) [] [true, true, true, true, true, true, true, true, true, true, true, true, true, true, true, true, true, true, true, true, true, true, true, true, true, true, true, true, true, true, true, true, true, true, true, true, true, true, true, true, true, true, true, true, true, true, true, true, true, true, true, true, true, true, true, true, true, true, true] (by kernel_rfl) (by kernel_rfl) rfl (by kernel_rfl) ?_
              have hS0 := HSS.out
              first | (refine wpHG_off (by rfl) hS0 ?_) | (refine wpHG_soft (by rfl) hS0 (by intro w' hSw; obtain ⟨q0, q1, q2, q3⟩ := hSw; go_simp; rfl) ?_)
              simp only [Act.put, List.setIfInBounds_toArray, List.set_cons_zero, List.set_cons_succ]
              first | (refine wpHG_off (by rfl) hS0 ?_) | (refine wpHG_soft (by rfl) hS0 (by intro w' hSw; obtain ⟨q0, q1, q2, q3⟩ := hSw; go_simp; rfl) ?_)
              simp only [Act.put, List.setIfInBounds_toArray, List.set_cons_zero, List.set_cons_succ]
              first | (refine wpHG_off (by rfl) hS0 ?_) | (refine wpHG_soft (by rfl) hS0 (by intro w' hSw; obtain ⟨q0, q1, q2, q3⟩ := hSw; go_simp; rfl) ?_)
              simp only [Act.put, List.setIfInBounds_toArray, List.set_cons_zero, List.set_cons_succ]
              first | (refine wpHG_off (by rfl) hS0 ?_) | (refine wpHG_soft (by rfl) hS0 (by intro w' hSw; obtain ⟨q0, q1, q2, q3⟩ := hSw; go_simp; rfl) ?_)
              simp only [Act.put, List.setIfInBounds_toArray, List.set_cons_zero, List.set_cons_succ]
              refine wpHG_soft (v := .bool false) (by rfl) hS0 (by intro w' hSw; obtain ⟨q0, q1, q2, q3⟩ := hSw; go_simp) ?_
              simp only [Act.put, List.setIfInBounds_toArray, List.set_cons_zero, List.set_cons_succ]
              first | (refine wpHG_off (by rfl) hS0 ?_) | (refine wpHG_soft (by rfl) hS0 (by intro w' hSw; obtain ⟨q0, q1, q2, q3⟩ := hSw; go_simp; rfl) ?_)
              simp only [Act.put, List.setIfInBounds_toArray, List.set_cons_zero, List.set_cons_succ]
              first | (refine wpHG_off (by rfl) hS0 ?_) | (refine wpHG_soft (by rfl) hS0 (by intro w' hSw; obtain ⟨q0, q1, q2, q3⟩ := hSw; go_simp; rfl) ?_)
              simp only [Act.put, List.setIfInBounds_toArray, List.set_cons_zero, List.set_cons_succ]
              first | (refine wpHG_off (by rfl) hS0 ?_) | (refine wpHG_soft (by rfl) hS0 (by intro w' hSw; obtain ⟨q0, q1, q2, q3⟩ := hSw; go_simp; rfl) ?_)
              simp only [Act.put, List.setIfInBounds_toArray, List.set_cons_zero, List.set_cons_succ]
              first | (refine wpHG_off (by rfl) hS0 ?_) | (refine wpHG_soft (by rfl) hS0 (by intro w' hSw; obtain ⟨q0, q1, q2, q3⟩ := hSw; go_simp; rfl) ?_)
              simp only [Act.put, List.setIfInBounds_toArray, List.set_cons_zero, List.set_cons_succ]
              first | (refine wpHG_off (by rfl) hS0 ?_) | (refine wpHG_soft (by rfl) hS0 (by intro w' hSw; obtain ⟨q0, q1, q2, q3⟩ := hSw; go_simp; rfl) ?_)
              simp only [Act.put, List.setIfInBounds_toArray, List.set_cons_zero, List.set_cons_succ]
              first | (refine wpHG_off (by rfl) hS0 ?_) | (refine wpHG_soft (by rfl) hS0 (by intro w' hSw; obtain ⟨q0, q1, q2, q3⟩ := hSw; go_simp; rfl) ?_)
              simp only [Act.put, List.setIfInBounds_toArray, List.set_cons_zero, List.set_cons_succ]
              first | (refine wpHG_off (by rfl) hS0 ?_) | (refine wpHG_soft (by rfl) hS0 (by intro w' hSw; obtain ⟨q0, q1, q2, q3⟩ := hSw; go_simp; rfl) ?_)
              simp only [Act.put, List.setIfInBounds_toArray, List.set_cons_zero, List.set_cons_succ]
              first | (refine wpHG_off (by rfl) hS0 ?_) | (refine wpHG_soft (by rfl) hS0 (by intro w' hSw; obtain ⟨q0, q1, q2, q3⟩ := hSw; go_simp; rfl) ?_)
              simp only [Act.put, List.setIfInBounds_toArray, List.set_cons_zero, List.set_cons_succ]
              first | (refine wpHG_off (by rfl) hS0 ?_) | (refine wpHG_soft (by rfl) hS0 (by intro w' hSw; obtain ⟨q0, q1, q2, q3⟩ := hSw; go_simp; rfl) ?_)
              simp only [Act.put, List.setIfInBounds_toArray, List.set_cons_zero, List.set_cons_succ]
              first | (refine wpHG_off (by rfl) hS0 ?_) | (refine wpHG_soft (by rfl) hS0 (by intro w' hSw; obtain ⟨q0, q1, q2, q3⟩ := hSw; go_simp; rfl) ?_)
              simp only [Act.put, List.setIfInBounds_toArray, List.set_cons_zero, List.set_cons_succ]
              first | (refine wpHG_off (by rfl) hS0 ?_) | (refine wpHG_soft (by rfl) hS0 (by intro w' hSw; obtain ⟨q0, q1, q2, q3⟩ := hSw; go_simp; rfl) ?_)
              simp only [Act.put, List.setIfInBounds_toArray, List.set_cons_zero, List.set_cons_succ]
              first | (refine wpHG_off (by rfl) hS0 ?_) | (refine wpHG_soft (by rfl) hS0 (by intro w' hSw; obtain ⟨q0, q1, q2, q3⟩ := hSw; go_simp; rfl) ?_)
              simp only [Act.put, List.setIfInBounds_toArray, List.set_cons_zero, List.set_cons_succ]
              first | (refine wpHG_off (by rfl) hS0 ?_) | (refine wpHG_soft (by rfl) hS0 (by intro w' hSw; obtain ⟨q0, q1, q2, q3⟩ := hSw; go_simp; rfl) ?_)
              simp only [Act.put, List.setIfInBounds_toArray, List.set_cons_zero, List.set_cons_succ]
              first | (refine wpHG_off (by rfl) hS0 ?_) | (refine wpHG_soft (by rfl) hS0 (by intro w' hSw; obtain ⟨q0, q1, q2, q3⟩ := hSw; go_simp; rfl) ?_)
              simp only [Act.put, List.setIfInBounds_toArray, List.set_cons_zero, List.set_cons_succ]
              first | (refine wpHG_off (by rfl) hS0 ?_) | (refine wpHG_soft (by rfl) hS0 (by intro w' hSw; obtain ⟨q0, q1, q2, q3⟩ := hSw; go_simp; rfl) ?_)
              simp only [Act.put, List.setIfInBounds_toArray, List.set_cons_zero, List.set_cons_succ]
              first | (refine wpHG_off (by rfl) hS0 ?_) | (refine wpHG_soft (by rfl) hS0 (by intro w' hSw; obtain ⟨q0, q1, q2, q3⟩ := hSw; go_simp; rfl) ?_)
              simp only [Act.put, List.setIfInBounds_toArray, List.set_cons_zero, List.set_cons_succ]
              first | (refine wpHG_off (by rfl) hS0 ?_) | (refine wpHG_soft (by rfl) hS0 (by intro w' hSw; obtain ⟨q0, q1, q2, q3⟩ := hSw; go_simp; rfl) ?_)
              simp only [Act.put, List.setIfInBounds_toArray, List.set_cons_zero, List.set_cons_succ]
              first | (refine wpHG_off (by rfl) hS0 ?_) | (refine wpHG_soft (by rfl) hS0 (by intro w' hSw; obtain ⟨q0, q1, q2, q3⟩ := hSw; go_simp; rfl) ?_)
              simp only [Act.put, List.setIfInBounds_toArray, List.set_cons_zero, List.set_cons_succ]
              first | (refine wpHG_off (by rfl) hS0 ?_) | (refine wpHG_soft (by rfl) hS0 (by intro w' hSw; obtain ⟨q0, q1, q2, q3⟩ := hSw; go_simp; rfl) ?_)
              simp only [Act.put, List.setIfInBounds_toArray, List.set_cons_zero, List.set_cons_succ]
              first | (refine wpHG_off (by rfl) hS0 ?_) | (refine wpHG_soft (by rfl) hS0 (by intro w' hSw; obtain ⟨q0, q1, q2, q3⟩ := hSw; go_simp; rfl) ?_)
              simp only [Act.put, List.setIfInBounds_toArray, List.set_cons_zero, List.set_cons_succ]
              first | (refine wpHG_off (by rfl) hS0 ?_) | (refine wpHG_soft (by rfl) hS0 (by intro w' hSw; obtain ⟨q0, q1, q2, q3⟩ := hSw; go_simp; rfl) ?_)
              simp only [Act.put, List.setIfInBounds_toArray, List.set_cons_zero, List.set_cons_succ]
              first | (refine wpHG_off (by rfl) hS0 ?_) | (refine wpHG_soft (by rfl) hS0 (by intro w' hSw; obtain ⟨q0, q1, q2, q3⟩ := hSw; go_simp; rfl) ?_)
              simp only [Act.put, List.setIfInBounds_toArray, List.set_cons_zero, List.set_cons_succ]
              first | (refine wpHG_off (by rfl) hS0 ?_) | (refine wpHG_soft (by rfl) hS0 (by intro w' hSw; obtain ⟨q0, q1, q2, q3⟩ := hSw; go_simp; rfl) ?_)
              simp only [Act.put, List.setIfInBounds_toArray, List.set_cons_zero, List.set_cons_succ]
              first | (refine wpHG_off (by rfl) hS0 ?_) | (refine wpHG_soft (by rfl) hS0 (by intro w' hSw; obtain ⟨q0, q1, q2, q3⟩ := hSw; go_simp; rfl) ?_)
              simp only [Act.put, List.setIfInBounds_toArray, List.set_cons_zero, List.set_cons_succ]
              first | (refine wpHG_off (by rfl) hS0 ?_) | (refine wpHG_soft (by rfl) hS0 (by intro w' hSw; obtain ⟨q0, q1, q2, q3⟩ := hSw; go_simp; rfl) ?_)
              simp only [Act.put, List.setIfInBounds_toArray, List.set_cons_zero, List.set_cons_succ]
              first | (refine wpHG_off (by rfl) hS0 ?_) | (refine wpHG_soft (by rfl) hS0 (by intro w' hSw; obtain ⟨q0, q1, q2, q3⟩ := hSw; go_simp; rfl) ?_)
              simp only [Act.put, List.setIfInBounds_toArray, List.set_cons_zero, List.set_cons_succ]
              first | (refine wpHG_off (by rfl) hS0 ?_) | (refine wpHG_soft (by rfl) hS0 (by intro w' hSw; obtain ⟨q0, q1, q2, q3⟩ := hSw; go_simp; rfl) ?_)
              simp only [Act.put, List.setIfInBounds_toArray, List.set_cons_zero, List.set_cons_succ]
              first | (refine wpHG_off (by rfl) hS0 ?_) | (refine wpHG_soft (by rfl) hS0 (by intro w' hSw; obtain ⟨q0, q1, q2, q3⟩ := hSw; go_simp; rfl) ?_)
              simp only [Act.put, List.setIfInBounds_toArray, List.set_cons_zero, List.set_cons_succ]
              first | (refine wpHG_off (by rfl) hS0 ?_) | (refine wpHG_soft (by rfl) hS0 (by intro w' hSw; obtain ⟨q0, q1, q2, q3⟩ := hSw; go_simp; rfl) ?_)
              simp only [Act.put, List.setIfInBounds_toArray, List.set_cons_zero, List.set_cons_succ]
              first | (refine wpHG_off (by rfl) hS0 ?_) | (refine wpHG_soft (by rfl) hS0 (by intro w' hSw; obtain ⟨q0, q1, q2, q3⟩ := hSw; go_simp; rfl) ?_)
              simp only [Act.put, List.setIfInBounds_toArray, List.set_cons_zero, List.set_cons_succ]
              first | (refine wpHG_off (by rfl) hS0 ?_) | (refine wpHG_soft (by rfl) hS0 (by intro w' hSw; obtain ⟨q0, q1, q2, q3⟩ := hSw; go_simp; rfl) ?_)
              simp only [Act.put, List.setIfInBounds_toArray, List.set_cons_zero, List.set_cons_succ]
              first | (refine wpHG_off (by rfl) hS0 ?_) | (refine wpHG_soft (by rfl) hS0 (by intro w' hSw; obtain ⟨q0, q1, q2, q3⟩ := hSw; go_simp; rfl) ?_)
              simp only [Act.put, List.setIfInBounds_toArray, List.set_cons_zero, List.set_cons_succ]
              first | (refine wpHG_off (by rfl) hS0 ?_) | (refine wpHG_soft (by rfl) hS0 (by intro w' hSw; obtain ⟨q0, q1, q2, q3⟩ := hSw; go_simp; rfl) ?_)
              simp only [Act.put, List.setIfInBounds_toArray, List.set_cons_zero, List.set_cons_succ]
              first | (refine wpHG_off (by rfl) hS0 ?_) | (refine wpHG_soft (by rfl) hS0 (by intro w' hSw; obtain ⟨q0, q1, q2, q3⟩ := hSw; go_simp; rfl) ?_)
              simp only [Act.put, List.setIfInBounds_toArray, List.set_cons_zero, List.set_cons_succ]
              first | (refine wpHG_off (by rfl) hS0 ?_) | (refine wpHG_soft (by rfl) hS0 (by intro w' hSw; obtain ⟨q0, q1, q2, q3⟩ := hSw; go_simp; rfl) ?_)
              simp only [Act.put, List.setIfInBounds_toArray, List.set_cons_zero, List.set_cons_succ]
              first | (refine wpHG_off (by rfl) hS0 ?_) | (refine wpHG_soft (by rfl) hS0 (by intro w' hSw; obtain ⟨q0, q1, q2, q3⟩ := hSw; go_simp; rfl) ?_)
              simp only [Act.put, List.setIfInBounds_toArray, List.set_cons_zero, List.set_cons_succ]
              first | (refine wpHG_off (by rfl) hS0 ?_) | (refine wpHG_soft (by rfl) hS0 (by intro w' hSw; obtain ⟨q0, q1, q2, q3⟩ := hSw; go_simp; rfl) ?_)
              simp only [Act.put, List.setIfInBounds_toArray, List.set_cons_zero, List.set_cons_succ]
              first | (refine wpHG_off (by rfl) hS0 ?_) | (refine wpHG_soft (by rfl) hS0 (by intro w' hSw; obtain ⟨q0, q1, q2, q3⟩ := hSw; go_simp; rfl) ?_)
              simp only [Act.put, List.setIfInBounds_toArray, List.set_cons_zero, List.set_cons_succ]
              first | (refine wpHG_off (by rfl) hS0 ?_) | (refine wpHG_soft (by rfl) hS0 (by intro w' hSw; obtain ⟨q0, q1, q2, q3⟩ := hSw; go_simp; rfl) ?_)
              simp only [Act.put, List.setIfInBounds_toArray, List.set_cons_zero, List.set_cons_succ]
              first | (refine wpHG_off (by rfl) hS0 ?_) | (refine wpHG_soft (by rfl) hS0 (by intro w' hSw; obtain ⟨q0, q1, q2, q3⟩ := hSw; go_simp; rfl) ?_)
              simp only [Act.put, List.setIfInBounds_toArray, List.set_cons_zero, List.set_cons_succ]
              first | (refine wpHG_off (by rfl) hS0 ?_) | (refine wpHG_soft (by rfl) hS0 (by intro w' hSw; obtain ⟨q0, q1, q2, q3⟩ := hSw; go_simp; rfl) ?_)
              simp only [Act.put, List.setIfInBounds_toArray, List.set_cons_zero, List.set_cons_succ]
              first | (refine wpHG_off (by rfl) hS0 ?_) | (refine wpHG_soft (by rfl) hS0 (by intro w' hSw; obtain ⟨q0, q1, q2, q3⟩ := hSw; go_simp; rfl) ?_)
              simp only [Act.put, List.setIfInBounds_toArray, List.set_cons_zero, List.set_cons_succ]
              first | (refine wpHG_off (by rfl) hS0 ?_) | (refine wpHG_soft (by rfl) hS0 (by intro w' hSw; obtain ⟨q0, q1, q2, q3⟩ := hSw; go_simp; rfl) ?_)
              simp only [Act.put, List.setIfInBounds_toArray, List.set_cons_zero, List.set_cons_succ]
              first | (refine wpHG_off (by rfl) hS0 ?_) | (refine wpHG_soft (by rfl) hS0 (by intro w' hSw; obtain ⟨q0, q1, q2, q3⟩ := hSw; go_simp; rfl) ?_)
              simp only [Act.put, List.setIfInBounds_toArray, List.set_cons_zero, List.set_cons_succ]
              first | (refine wpHG_off (by rfl) hS0 ?_) | (refine wpHG_soft (by rfl) hS0 (by intro w' hSw; obtain ⟨q0, q1, q2, q3⟩ := hSw; go_simp; rfl) ?_)
              simp only [Act.put, List.setIfInBounds_toArray, List.set_cons_zero, List.set_cons_succ]
              first | (refine wpHG_off (by rfl) hS0 ?_) | (refine wpHG_soft (by rfl) hS0 (by intro w' hSw; obtain ⟨q0, q1, q2, q3⟩ := hSw; go_simp; rfl) ?_)
              simp only [Act.put, List.setIfInBounds_toArray, List.set_cons_zero, List.set_cons_succ]
              first | (refine wpHG_off (by rfl) hS0 ?_) | (refine wpHG_soft (by rfl) hS0 (by intro w' hSw; obtain ⟨q0, q1, q2, q3⟩ := hSw; go_simp; rfl) ?_)
              simp only [Act.put, List.setIfInBounds_toArray, List.set_cons_zero, List.set_cons_succ]
              first | (refine wpHG_off (by rfl) hS0 ?_) | (refine wpHG_soft (by rfl) hS0 (by intro w' hSw; obtain ⟨q0, q1, q2, q3⟩ := hSw; go_simp; rfl) ?_)
              simp only [Act.put, List.setIfInBounds_toArray, List.set_cons_zero, List.set_cons_succ]
              first | (refine wpHG_off (by rfl) hS0 ?_) | (refine wpHG_soft (by rfl) hS0 (by intro w' hSw; obtain ⟨q0, q1, q2, q3⟩ := hSw; go_simp; rfl) ?_)
              simp only [Act.put, List.setIfInBounds_toArray, List.set_cons_zero, List.set_cons_succ]
              first | (refine wpHG_off (by rfl) hS0 ?_) | (refine wpHG_soft (by rfl) hS0 (by intro w' hSw; obtain ⟨q0, q1, q2, q3⟩ := hSw; go_simp; rfl) ?_)
              simp only [Act.put, List.setIfInBounds_toArray, List.set_cons_zero, List.set_cons_succ]
              first | (refine wpHG_off (by rfl) hS0 ?_) | (refine wpHG_soft (by rfl) hS0 (by intro w' hSw; obtain ⟨q0, q1, q2, q3⟩ := hSw; go_simp; rfl) ?_)
              simp only [Act.put, List.setIfInBounds_toArray, List.set_cons_zero, List.set_cons_succ]
              first | (refine wpHG_off (by rfl) hS0 ?_) | (refine wpHG_soft (by rfl) hS0 (by intro w' hSw; obtain ⟨q0, q1, q2, q3⟩ := hSw; go_simp; rfl) ?_)
              simp only [Act.put, List.setIfInBounds_toArray, List.set_cons_zero, List.set_cons_succ]
              first | (refine wpHG_off (by rfl) hS0 ?_) | (refine wpHG_soft (by rfl) hS0 (by intro w' hSw; obtain ⟨q0, q1, q2, q3⟩ := hSw; go_simp; rfl) ?_)
              simp only [Act.put, List.setIfInBounds_toArray, List.set_cons_zero, List.set_cons_succ]
              first | (refine wpHG_off (by rfl) hS0 ?_) | (refine wpHG_soft (by rfl) hS0 (by intro w' hSw; obtain ⟨q0, q1, q2, q3⟩ := hSw; go_simp; rfl) ?_)
              simp only [Act.put, List.setIfInBounds_toArray, List.set_cons_zero, List.set_cons_succ]
              refine wpHG_nil ?_
              clear hS0
              go_wp2_with fail
              go_roundg (gk - 1)
              case measure => have := HK.out; omega
              case rel => exact ⟨k + 1, _, by have := HK.out; omega, by go_num, rfl, Lib.hid (found_used HFD.out HU.out), HB6.out.drew⟩
          · have hau2 : W6.cell? ⟨gu, k, none⟩ = some (.bool false) := by rw [hau]; simp [hu]
            have HU := Lib.hid hu
            clear hau hu
            by_cases hr : r = -1
            · subst hr
              have HSS : Hid (W6.drew.cell? ⟨gu, k, none⟩ = some (.bool false) ∧ W6.drew.cell? ⟨wr.heap.size, 0, none⟩ = some (.int .i64 x.dg.code) ∧ W6.drew.cell? ⟨wr.heap.size, 1, none⟩ = some (.int .i64 x.dg.at_) ∧ W6.drew.cell? ⟨wr.heap.size, 2, none⟩ = some (.int .i64 x.dg.fin)) := Lib.hid ⟨hau2, ha0, ha1, ha2⟩
              clear hau2 ha0 ha1 ha2
              as_aux_lemma =>
                go_wp2_with (rw [hW6])
                refine wp_region_HG (fun W' => W'.cell? ⟨gu, k, none⟩ = some (.bool false) ∧ W'.cell? ⟨wr.heap.size, 0, none⟩ = some (.int .i64 x.dg.code) ∧ W'.cell? ⟨wr.heap.size, 1, none⟩ = some (.int .i64 x.dg.at_) ∧ W'.cell? ⟨wr.heap.size, 2, none⟩ = some (.int .i64 x.dg.fin)) [] [true, true, true, true, true, true, true, true, true, true, true, true, true, true, true, true, true, true, true, true, true, true, true, true, true, true, true, true, true, true, true, true, true, true, true, true, true, true, true, true, true, true, true, true, true, true, true, true, true, true, true, true, true, true, true, true, true, true, true] (by kernel_rfl) (by kernel_rfl) rfl (by kernel_rfl) ?_
                have hS0 := HSS.out
                first | (refine wpHG_off (by rfl) hS0 ?_) | (refine wpHG_soft (by rfl) hS0 (by intro w' hSw; obtain ⟨q0, q1, q2, q3⟩ := hSw; go_simp; rfl) ?_)
                simp only [Act.put, List.setIfInBounds_toArray, List.set_cons_zero, List.set_cons_succ]
                first | (refine wpHG_off (by rfl) hS0 ?_) | (refine wpHG_soft (by rfl) hS0 (by intro w' hSw; obtain ⟨q0, q1, q2, q3⟩ := hSw; go_simp; rfl) ?_)
                simp only [Act.put, List.setIfInBounds_toArray, List.set_cons_zero, List.set_cons_succ]
                first | (refine wpHG_off (by rfl) hS0 ?_) | (refine wpHG_soft (by rfl) hS0 (by intro w' hSw; obtain ⟨q0, q1, q2, q3⟩ := hSw; go_simp; rfl) ?_)
                simp only [Act.put, List.setIfInBounds_toArray, List.set_cons_zero, List.set_cons_succ]
                first | (refine wpHG_off (by rfl) hS0 ?_) | (refine wpHG_soft (by rfl) hS0 (by intro w' hSw; obtain ⟨q0, q1, q2, q3⟩ := hSw; go_simp; rfl) ?_)
                simp only [Act.put, List.setIfInBounds_toArray, List.set_cons_zero, List.set_cons_succ]
                refine wpHG_soft (v := .bool true) (by rfl) hS0 (by intro w' hSw; obtain ⟨q0, q1, q2, q3⟩ := hSw; go_simp) ?_
                simp only [Act.put, List.setIfInBounds_toArray, List.set_cons_zero, List.set_cons_succ]
                first | (refine wpHG_off (by rfl) hS0 ?_) | (refine wpHG_soft (by rfl) hS0 (by intro w' hSw; obtain ⟨q0, q1, q2, q3⟩ := hSw; go_simp; rfl) ?_)
                simp only [Act.put, List.setIfInBounds_toArray, List.set_cons_zero, List.set_cons_succ]
                first | (refine wpHG_off (by rfl) hS0 ?_) | (refine wpHG_soft (by rfl) hS0 (by intro w' hSw; obtain ⟨q0, q1, q2, q3⟩ := hSw; go_simp; rfl) ?_)
                simp only [Act.put, List.setIfInBounds_toArray, List.set_cons_zero, List.set_cons_succ]
                refine wpHG_soft (v := .bool true) (by rfl) hS0 (by intro w' hSw; obtain ⟨q0, q1, q2, q3⟩ := hSw; go_simp) ?_
                simp only [Act.put, List.setIfInBounds_toArray, List.set_cons_zero, List.set_cons_succ]
                first | (refine wpHG_off (by rfl) hS0 ?_) | (refine wpHG_soft (by rfl) hS0 (by intro w' hSw; obtain ⟨q0, q1, q2, q3⟩ := hSw; go_simp; rfl) ?_)
                simp only [Act.put, List.setIfInBounds_toArray, List.set_cons_zero, List.set_cons_succ]
                first | (refine wpHG_off (by rfl) hS0 ?_) | (refine wpHG_soft (by rfl) hS0 (by intro w' hSw; obtain ⟨q0, q1, q2, q3⟩ := hSw; go_simp; rfl) ?_)
                simp only [Act.put, List.setIfInBounds_toArray, List.set_cons_zero, List.set_cons_succ]
                first | (refine wpHG_off (by rfl) hS0 ?_) | (refine wpHG_soft (by rfl) hS0 (by intro w' hSw; obtain ⟨q0, q1, q2, q3⟩ := hSw; go_simp; rfl) ?_)
                simp only [Act.put, List.setIfInBounds_toArray, List.set_cons_zero, List.set_cons_succ]
                first | (refine wpHG_off (by rfl) hS0 ?_) | (refine wpHG_soft (by rfl) hS0 (by intro w' hSw; obtain ⟨q0, q1, q2, q3⟩ := hSw; go_simp; rfl) ?_)
                simp only [Act.put, List.setIfInBounds_toArray, List.set_cons_zero, List.set_cons_succ]
                first | (refine wpHG_off (by rfl) hS0 ?_) | (refine wpHG_soft (by rfl) hS0 (by intro w' hSw; obtain ⟨q0, q1, q2, q3⟩ := hSw; go_simp; rfl) ?_)
                simp only [Act.put, List.setIfInBounds_toArray, List.set_cons_zero, List.set_cons_succ]
                first | (refine wpHG_off (by rfl) hS0 ?_) | (refine wpHG_soft (by rfl) hS0 (by intro w' hSw; obtain ⟨q0, q1, q2, q3⟩ := hSw; go_simp; rfl) ?_)
                simp only [Act.put, List.setIfInBounds_toArray, List.set_cons_zero, List.set_cons_succ]
                first | (refine wpHG_off (by rfl) hS0 ?_) | (refine wpHG_soft (by rfl) hS0 (by intro w' hSw; obtain ⟨q0, q1, q2, q3⟩ := hSw; go_simp; rfl) ?_)
                simp only [Act.put, List.setIfInBounds_toArray, List.set_cons_zero, List.set_cons_succ]
                first | (refine wpHG_off (by rfl) hS0 ?_) | (refine wpHG_soft (by rfl) hS0 (by intro w' hSw; obtain ⟨q0, q1, q2, q3⟩ := hSw; go_simp; rfl) ?_)
                simp only [Act.put, List.setIfInBounds_toArray, List.set_cons_zero, List.set_cons_succ]
                first | (refine wpHG_off (by rfl) hS0 ?_) | (refine wpHG_soft (by rfl) hS0 (by intro w' hSw; obtain ⟨q0, q1, q2, q3⟩ := hSw; go_simp; rfl) ?_)
                simp only [Act.put, List.setIfInBounds_toArray, List.set_cons_zero, List.set_cons_succ]
                first | (refine wpHG_off (by rfl) hS0 ?_) | (refine wpHG_soft (by rfl) hS0 (by intro w' hSw; obtain ⟨q0, q1, q2, q3⟩ := hSw; go_simp; rfl) ?_)
                simp only [Act.put, List.setIfInBounds_toArray, List.set_cons_zero, List.set_cons_succ]
                first | (refine wpHG_off (by rfl) hS0 ?_) | (refine wpHG_soft (by rfl) hS0 (by intro w' hSw; obtain ⟨q0, q1, q2, q3⟩ := hSw; go_simp; rfl) ?_)
                simp only [Act.put, List.setIfInBounds_toArray, List.set_cons_zero, List.set_cons_succ]
                first | (refine wpHG_off (by rfl) hS0 ?_) | (refine wpHG_soft (by rfl) hS0 (by intro w' hSw; obtain ⟨q0, q1, q2, q3⟩ := hSw; go_simp; rfl) ?_)
                simp only [Act.put, List.setIfInBounds_toArray, List.set_cons_zero, List.set_cons_succ]
                first | (refine wpHG_off (by rfl) hS0 ?_) | (refine wpHG_soft (by rfl) hS0 (by intro w' hSw; obtain ⟨q0, q1, q2, q3⟩ := hSw; go_simp; rfl) ?_)
                simp only [Act.put, List.setIfInBounds_toArray, List.set_cons_zero, List.set_cons_succ]
                first | (refine wpHG_off (by rfl) hS0 ?_) | (refine wpHG_soft (by rfl) hS0 (by intro w' hSw; obtain ⟨q0, q1, q2, q3⟩ := hSw; go_simp; rfl) ?_)
                simp only [Act.put, List.setIfInBounds_toArray, List.set_cons_zero, List.set_cons_succ]
                first | (refine wpHG_off (by rfl) hS0 ?_) | (refine wpHG_soft (by rfl) hS0 (by intro w' hSw; obtain ⟨q0, q1, q2, q3⟩ := hSw; go_simp; rfl) ?_)
                simp only [Act.put, List.setIfInBounds_toArray, List.set_cons_zero, List.set_cons_succ]
                first | (refine wpHG_off (by rfl) hS0 ?_) | (refine wpHG_soft (by rfl) hS0 (by intro w' hSw; obtain ⟨q0, q1, q2, q3⟩ := hSw; go_simp; rfl) ?_)
                simp only [Act.put, List.setIfInBounds_toArray, List.set_cons_zero, List.set_cons_succ]
                first | (refine wpHG_off (by rfl) hS0 ?_) | (refine wpHG_soft (by rfl) hS0 (by intro w' hSw; obtain ⟨q0, q1, q2, q3⟩ := hSw; go_simp; rfl) ?_)
                simp only [Act.put, List.setIfInBounds_toArray, List.set_cons_zero, List.set_cons_succ]
                first | (refine wpHG_off (by rfl) hS0 ?_) | (refine wpHG_soft (by rfl) hS0 (by intro w' hSw; obtain ⟨q0, q1, q2, q3⟩ := hSw; go_simp; rfl) ?_)
                simp only [Act.put, List.setIfInBounds_toArray, List.set_cons_zero, List.set_cons_succ]
                first | (refine wpHG_off (by rfl) hS0 ?_) | (refine wpHG_soft (by rfl) hS0 (by intro w' hSw; obtain ⟨q0, q1, q2, q3⟩ := hSw; go_simp; rfl) ?_)
                simp only [Act.put, List.setIfInBounds_toArray, List.set_cons_zero, List.set_cons_succ]
                first | (refine wpHG_off (by rfl) hS0 ?_) | (refine wpHG_soft (by rfl) hS0 (by intro w' hSw; obtain ⟨q0, q1, q2, q3⟩ := hSw; go_simp; rfl) ?_)
                simp only [Act.put, List.setIfInBounds_toArray, List.set_cons_zero, List.set_cons_succ]
                first | (refine wpHG_off (by rfl) hS0 ?_) | (refine wpHG_soft (by rfl) hS0 (by intro w' hSw; obtain ⟨q0, q1, q2, q3⟩ := hSw; go_simp; rfl) ?_)
                simp only [Act.put, List.setIfInBounds_toArray, List.set_cons_zero, List.set_cons_succ]
                first | (refine wpHG_off (by rfl) hS0 ?_) | (refine wpHG_soft (by rfl) hS0 (by intro w' hSw; obtain ⟨q0, q1, q2, q3⟩ := hSw; go_simp; rfl) ?_)
                simp only [Act.put, List.setIfInBounds_toArray, List.set_cons_zero, List.set_cons_succ]
                first | (refine wpHG_off (by rfl) hS0 ?_) | (refine wpHG_soft (by rfl) hS0 (by intro w' hSw; obtain ⟨q0, q1, q2, q3⟩ := hSw; go_simp; rfl) ?_)
                simp only [Act.put, List.setIfInBounds_toArray, List.set_cons_zero, List.set_cons_succ]
                first | (refine wpHG_off (by rfl) hS0 ?_) | (refine wpHG_soft (by rfl) hS0 (by intro w' hSw; obtain ⟨q0, q1, q2, q3⟩ := hSw; go_simp; rfl) ?_)
                simp only [Act.put, List.setIfInBounds_toArray, List.set_cons_zero, List.set_cons_succ]
                first | (refine wpHG_off (by rfl) hS0 ?_) | (refine wpHG_soft (by rfl) hS0 (by intro w' hSw; obtain ⟨q0, q1, q2, q3⟩ := hSw; go_simp; rfl) ?_)
                simp only [Act.put, List.setIfInBounds_toArray, List.set_cons_zero, List.set_cons_succ]
                first | (refine wpHG_off (by rfl) hS0 ?_) | (refine wpHG_soft (by rfl) hS0 (by intro w' hSw; obtain ⟨q0, q1, q2, q3⟩ := hSw; go_simp; rfl) ?_)
                simp only [Act.put, List.setIfInBounds_toArray, List.set_cons_zero, List.set_cons_succ]
                first | (refine wpHG_off (by rfl) hS0 ?_) | (refine wpHG_soft (by rfl) hS0 (by intro w' hSw; obtain ⟨q0, q1, q2, q3⟩ := hSw; go_simp; rfl) ?_)
                simp only [Act.put, List.setIfInBounds_toArray, List.set_cons_zero, List.set_cons_succ]
                first | (refine wpHG_off (by rfl) hS0 ?_) | (refine wpHG_soft (by rfl) hS0 (by intro w' hSw; obtain ⟨q0, q1, q2, q3⟩ := hSw; go_simp; rfl) ?_)
                simp only [Act.put, List.setIfInBounds_toArray, List.set_cons_zero, List.set_cons_succ]
                first | (refine wpHG_off (by rfl) hS0 ?_) | (refine wpHG_soft (by rfl) hS0 (by intro w' hSw; obtain ⟨q0, q1, q2, q3⟩ := hSw; go_simp; rfl) ?_)
                simp only [Act.put, List.setIfInBounds_toArray, List.set_cons_zero, List.set_cons_succ]
                first | (refine wpHG_off (by rfl) hS0 ?_) | (refine wpHG_soft (by rfl) hS0 (by intro w' hSw; obtain ⟨q0, q1, q2, q3⟩ := hSw; go_simp; rfl) ?_)
                simp only [Act.put, List.setIfInBounds_toArray, List.set_cons_zero, List.set_cons_succ]
                first | (refine wpHG_off (by rfl) hS0 ?_) | (refine wpHG_soft (by rfl) hS0 (by intro w' hSw; obtain ⟨q0, q1, q2, q3⟩ := hSw; go_simp; rfl) ?_)
                simp only [Act.put, List.setIfInBounds_toArray, List.set_cons_zero, List.set_cons_succ]
                first | (refine wpHG_off (by rfl) hS0 ?_) | (refine wpHG_soft (by rfl) hS0 (by intro w' hSw; obtain ⟨q0, q1, q2, q3⟩ := hSw; go_simp; rfl) ?_)
                simp only [Act.put, List.setIfInBounds_toArray, List.set_cons_zero, List.set_cons_succ]
                first | (refine wpHG_off (by rfl) hS0 ?_) | (refine wpHG_soft (by rfl) hS0 (by intro w' hSw; obtain ⟨q0, q1, q2, q3⟩ := hSw; go_simp; rfl) ?_)
                simp only [Act.put, List.setIfInBounds_toArray, List.set_cons_zero, List.set_cons_succ]
                first | (refine wpHG_off (by rfl) hS0 ?_) | (refine wpHG_soft (by rfl) hS0 (by intro w' hSw; obtain ⟨q0, q1, q2, q3⟩ := hSw; go_simp; rfl) ?_)
                simp only [Act.put, List.setIfInBounds_toArray, List.set_cons_zero, List.set_cons_succ]
                first | (refine wpHG_off (by rfl) hS0 ?_) | (refine wpHG_soft (by rfl) hS0 (by intro w' hSw; obtain ⟨q0, q1, q2, q3⟩ := hSw; go_simp; rfl) ?_)
                simp only [Act.put, List.setIfInBounds_toArray, List.set_cons_zero, List.set_cons_succ]
                first | (refine wpHG_off (by rfl) hS0 ?_) | (refine wpHG_soft (by rfl) hS0 (by intro w' hSw; obtain ⟨q0, q1, q2, q3⟩ := hSw; go_simp; rfl) ?_)
                simp only [Act.put, List.setIfInBounds_toArray, List.set_cons_zero, List.set_cons_succ]
                first | (refine wpHG_off (by rfl) hS0 ?_) | (refine wpHG_soft (by rfl) hS0 (by intro w' hSw; obtain ⟨q0, q1, q2, q3⟩ := hSw; go_simp; rfl) ?_)
                simp only [Act.put, List.setIfInBounds_toArray, List.set_cons_zero, List.set_cons_succ]
                first | (refine wpHG_off (by rfl) hS0 ?_) | (refine wpHG_soft (by rfl) hS0 (by intro w' hSw; obtain ⟨q0, q1, q2, q3⟩ := hSw; go_simp; rfl) ?_)
                simp only [Act.put, List.setIfInBounds_toArray, List.set_cons_zero, List.set_cons_succ]
                first | (refine wpHG_off (by rfl) hS0 ?_) | (refine wpHG_soft (by rfl) hS0 (by intro w' hSw; obtain ⟨q0, q1, q2, q3⟩ := hSw; go_simp; rfl) ?_)
                simp only [Act.put, List.setIfInBounds_toArray, List.set_cons_zero, List.set_cons_succ]
                first | (refine wpHG_off (by rfl) hS0 ?_) | (refine wpHG_soft (by rfl) hS0 (by intro w' hSw; obtain ⟨q0, q1, q2, q3⟩ := hSw; go_simp; rfl) ?_)
                simp only [Act.put, List.setIfInBounds_toArray, List.set_cons_zero, List.set_cons_succ]
                first | (refine wpHG_off (by rfl) hS0 ?_) | (refine wpHG_soft (by rfl) hS0 (by intro w' hSw; obtain ⟨q0, q1, q2, q3⟩ := hSw; go_simp; rfl) ?_)
                simp only [Act.put, List.setIfInBounds_toArray, List.set_cons_zero, List.set_cons_succ]
                first | (refine wpHG_off (by rfl) hS0 ?_) | (refine wpHG_soft (by rfl) hS0 (by intro w' hSw; obtain ⟨q0, q1, q2, q3⟩ := hSw; go_simp; rfl) ?_)
                simp only [Act.put, List.setIfInBounds_toArray, List.set_cons_zero, List.set_cons_succ]
                first | (refine wpHG_off (by rfl) hS0 ?_) | (refine wpHG_soft (by rfl) hS0 (by intro w' hSw; obtain ⟨q0, q1, q2, q3⟩ := hSw; go_simp; rfl) ?_)
                simp only [Act.put, List.setIfInBounds_toArray, List.set_cons_zero, List.set_cons_succ]
                first | (refine wpHG_off (by rfl) hS0 ?_) | (refine wpHG_soft (by rfl) hS0 (by intro w' hSw; obtain ⟨q0, q1, q2, q3⟩ := hSw; go_simp; rfl) ?_)
                simp only [Act.put, List.setIfInBounds_toArray, List.set_cons_zero, List.set_cons_succ]
                first | (refine wpHG_off (by rfl) hS0 ?_) | (refine wpHG_soft (by rfl) hS0 (by intro w' hSw; obtain ⟨q0, q1, q2, q3⟩ := hSw; go_simp; rfl) ?_)
                simp only [Act.put, List.setIfInBounds_toArray, List.set_cons_zero, List.set_cons_succ]
                first | (refine wpHG_off (by rfl) hS0 ?_) | (refine wpHG_soft (by rfl) hS0 (by intro w' hSw; obtain ⟨q0, q1, q2, q3⟩ := hSw; go_simp; rfl) ?_)
                simp only [Act.put, List.setIfInBounds_toArray, List.set_cons_zero, List.set_cons_succ]
                first | (refine wpHG_off (by rfl) hS0 ?_) | (refine wpHG_soft (by rfl) hS0 (by intro w' hSw; obtain ⟨q0, q1, q2, q3⟩ := hSw; go_simp; rfl) ?_)
                simp only [Act.put, List.setIfInBounds_toArray, List.set_cons_zero, List.set_cons_succ]
                first | (refine wpHG_off (by rfl) hS0 ?_) | (refine wpHG_soft (by rfl) hS0 (by intro w' hSw; obtain ⟨q0, q1, q2, q3⟩ := hSw; go_simp; rfl) ?_)
                simp only [Act.put, List.setIfInBounds_toArray, List.set_cons_zero, List.set_cons_succ]
                first | (refine wpHG_off (by rfl) hS0 ?_) | (refine wpHG_soft (by rfl) hS0 (by intro w' hSw; obtain ⟨q0, q1, q2, q3⟩ := hSw; go_simp; rfl) ?_)
                simp only [Act.put, List.setIfInBounds_toArray, List.set_cons_zero, List.set_cons_succ]
                first | (refine wpHG_off (by rfl) hS0 ?_) | (refine wpHG_soft (by rfl) hS0 (by intro w' hSw; obtain ⟨q0, q1, q2, q3⟩ := hSw; go_simp; rfl) ?_)
                simp only [Act.put, List.setIfInBounds_toArray, List.set_cons_zero, List.set_cons_succ]
                first | (refine wpHG_off (by rfl) hS0 ?_) | (refine wpHG_soft (by rfl) hS0 (by intro w' hSw; obtain ⟨q0, q1, q2, q3⟩ := hSw; go_simp; rfl) ?_)
                simp only [Act.put, List.setIfInBounds_toArray, List.set_cons_zero, List.set_cons_succ]
                refine wpHG_nil ?_
                clear hS0
                go_wp2_with fail
                go_roundg (gk - 1)
                case measure => have := HK.out; omega
                case rel => exact ⟨k + 1, _, by have := HK.out; omega, by go_num, rfl, Lib.hid (found_first HFD.out E1.out HU.out), HB6.out.drew⟩
            · obtain ⟨m, y, hrm, hmk, hy, -⟩ : ∃ m y, r = (m : Nat) ∧ m < k ∧ xs[m]? = some y ∧ True := by
                rcases HFD.out with ⟨e, -⟩ | ⟨m, y, e, h1, h2, -⟩
                · exact absurd e hr
                · exact ⟨m, y, e, h1, h2, trivial⟩
              subst hrm
              clear hr
              have hmn : (m : Int) < (n : Int) := by omega
              have hm0 : ¬ (m : Int) < 0 := by omega
              obtain ⟨b2, o2, hA2, hb2, hc2⟩ := H6R.out m _ hy
              cases hA2
              have hm1 : W6.cell? ⟨b1, o1 + m * 5, none⟩ = some (.int .i64 y.dg.code) := by simpa using hc2 0 _ rfl
              have hm2 : W6.cell? ⟨b1, o1 + m * 5 + 1, none⟩ = some (.int .i64 y.dg.at_) := hc2 1 _ rfl
              have hm3 : W6.cell? ⟨b1, o1 + m * 5 + 2, none⟩ = some (.int .i64 y.dg.fin) := hc2 2 _ rfl
              have HSS : Hid (W6.drew.cell? ⟨gu, k, none⟩ = some (.bool false) ∧ W6.drew.cell? ⟨wr.heap.size, 0, none⟩ = some (.int .i64 x.dg.code) ∧ W6.drew.cell? ⟨wr.heap.size, 1, none⟩ = some (.int .i64 x.dg.at_) ∧ W6.drew.cell? ⟨wr.heap.size, 2, none⟩ = some (.int .i64 x.dg.fin) ∧ W6.drew.cell? ⟨b1, o1 + m * 5, none⟩ = some (.int .i64 y.dg.code) ∧ W6.drew.cell? ⟨b1, o1 + m * 5 + 1, none⟩ = some (.int .i64 y.dg.at_) ∧ W6.drew.cell? ⟨b1, o1 + m * 5 + 2, none⟩ = some (.int .i64 y.dg.fin)) := Lib.hid ⟨hau2, ha0, ha1, ha2, hm1, hm2, hm3⟩
              have HY := Lib.hid hy
              clear hau2 ha0 ha1 ha2 hm1 hm2 hm3 hc2 hy
              by_cases h1 : x.dg.at_ < y.dg.at_
              · have h1b : (x.dg.at_ == y.dg.at_) = false := by simp; omega
                as_aux_lemma =>
                  go_wp2_with (rw [hW6])
                  refine wp_region_HG (fun W' => W'.cell? ⟨gu, k, none⟩ = some (.bool false) ∧ W'.cell? ⟨wr.heap.size, 0, none⟩ = some (.int .i64 x.dg.code) ∧ W'.cell? ⟨wr.heap.size, 1, none⟩ = some (.int .i64 x.dg.at_) ∧ W'.cell? ⟨wr.heap.size, 2, none⟩ = some (.int .i64 x.dg.fin) ∧ W'.cell? ⟨b1, o1 + m * 5, none⟩ = some (.int .i64 y.dg.code) ∧ W'.cell? ⟨b1, o1 + m * 5 + 1, none⟩ = some (.int .i64 y.dg.at_) ∧ W'.cell? ⟨b1, o1 + m * 5 + 2, none⟩ = some (.int .i64 y.dg.fin)) [] [true, true, true, true, true, true, true, true, true, true, true, true, true, true, true, true, true, true, true, true, true, true, true, true, true, true, true, true, true, true, true, true, true, true, true, true, true, true, true, true, true, true, true, true, true, true, true, true, true, true, true, true, true, true, true, true, true, true, true] (by kernel_rfl) (by kernel_rfl) rfl (by kernel_rfl) ?_
                  have hS0 := HSS.out
                  first | (refine wpHG_off (by rfl) hS0 ?_) | (refine wpHG_soft (by rfl) hS0 (by intro w' hSw; obtain ⟨q0, q1, q2, q3, q4, q5, q6⟩ := hSw; go_simp; rfl) ?_)
                  simp only [Act.put, List.setIfInBounds_toArray, List.set_cons_zero, List.set_cons_succ]
                  first | (refine wpHG_off (by rfl) hS0 ?_) | (refine wpHG_soft (by rfl) hS0 (by intro w' hSw; obtain ⟨q0, q1, q2, q3, q4, q5, q6⟩ := hSw; go_simp; rfl) ?_)
                  simp only [Act.put, List.setIfInBounds_toArray, List.set_cons_zero, List.set_cons_succ]
                  first | (refine wpHG_off (by rfl) hS0 ?_) | (refine wpHG_soft (by rfl) hS0 (by intro w' hSw; obtain ⟨q0, q1, q2, q3, q4, q5, q6⟩ := hSw; go_simp; rfl) ?_)
                  simp only [Act.put, List.setIfInBounds_toArray, List.set_cons_zero, List.set_cons_succ]
                  first | (refine wpHG_off (by rfl) hS0 ?_) | (refine wpHG_soft (by rfl) hS0 (by intro w' hSw; obtain ⟨q0, q1, q2, q3, q4, q5, q6⟩ := hSw; go_simp; rfl) ?_)
                  simp only [Act.put, List.setIfInBounds_toArray, List.set_cons_zero, List.set_cons_succ]
                  refine wpHG_soft (v := .bool true) (by rfl) hS0 (by intro w' hSw; obtain ⟨q0, q1, q2, q3, q4, q5, q6⟩ := hSw; go_simp) ?_
                  simp only [Act.put, List.setIfInBounds_toArray, List.set_cons_zero, List.set_cons_succ]
                  first | (refine wpHG_off (by rfl) hS0 ?_) | (refine wpHG_soft (by rfl) hS0 (by intro w' hSw; obtain ⟨q0, q1, q2, q3, q4, q5, q6⟩ := hSw; go_simp; rfl) ?_)
                  simp only [Act.put, List.setIfInBounds_toArray, List.set_cons_zero, List.set_cons_succ]
                  first | (refine wpHG_off (by rfl) hS0 ?_) | (refine wpHG_soft (by rfl) hS0 (by intro w' hSw; obtain ⟨q0, q1, q2, q3, q4, q5, q6⟩ := hSw; go_simp; rfl) ?_)
                  simp only [Act.put, List.setIfInBounds_toArray, List.set_cons_zero, List.set_cons_succ]
                  refine wpHG_soft (v := .bool false) (by rfl) hS0 (by intro w' hSw; obtain ⟨q0, q1, q2, q3, q4, q5, q6⟩ := hSw; go_simp) ?_
                  simp only [Act.put, List.setIfInBounds_toArray, List.set_cons_zero, List.set_cons_succ]
                  first | (refine wpHG_off (by rfl) hS0 ?_) | (refine wpHG_soft (by rfl) hS0 (by intro w' hSw; obtain ⟨q0, q1, q2, q3, q4, q5, q6⟩ := hSw; go_simp; rfl) ?_)
                  simp only [Act.put, List.setIfInBounds_toArray, List.set_cons_zero, List.set_cons_succ]
                  first | (refine wpHG_off (by rfl) hS0 ?_) | (refine wpHG_soft (by rfl) hS0 (by intro w' hSw; obtain ⟨q0, q1, q2, q3, q4, q5, q6⟩ := hSw; go_simp; rfl) ?_)
                  simp only [Act.put, List.setIfInBounds_toArray, List.set_cons_zero, List.set_cons_succ]
                  first | (refine wpHG_off (by rfl) hS0 ?_) | (refine wpHG_soft (by rfl) hS0 (by intro w' hSw; obtain ⟨q0, q1, q2, q3, q4, q5, q6⟩ := hSw; go_simp; rfl) ?_)
                  simp only [Act.put, List.setIfInBounds_toArray, List.set_cons_zero, List.set_cons_succ]
                  first | (refine wpHG_off (by rfl) hS0 ?_) | (refine wpHG_soft (by rfl) hS0 (by intro w' hSw; obtain ⟨q0, q1, q2, q3, q4, q5, q6⟩ := hSw; go_simp; rfl) ?_)
                  simp only [Act.put, List.setIfInBounds_toArray, List.set_cons_zero, List.set_cons_succ]
                  first | (refine wpHG_off (by rfl) hS0 ?_) | (refine wpHG_soft (by rfl) hS0 (by intro w' hSw; obtain ⟨q0, q1, q2, q3, q4, q5, q6⟩ := hSw; go_simp; rfl) ?_)
                  simp only [Act.put, List.setIfInBounds_toArray, List.set_cons_zero, List.set_cons_succ]
                  first | (refine wpHG_off (by rfl) hS0 ?_) | (refine wpHG_soft (by rfl) hS0 (by intro w' hSw; obtain ⟨q0, q1, q2, q3, q4, q5, q6⟩ := hSw; go_simp; rfl) ?_)
                  simp only [Act.put, List.setIfInBounds_toArray, List.set_cons_zero, List.set_cons_succ]
                  first | (refine wpHG_off (by rfl) hS0 ?_) | (refine wpHG_soft (by rfl) hS0 (by intro w' hSw; obtain ⟨q0, q1, q2, q3, q4, q5, q6⟩ := hSw; go_simp; rfl) ?_)
                  simp only [Act.put, List.setIfInBounds_toArray, List.set_cons_zero, List.set_cons_succ]
                  first | (refine wpHG_off (by rfl) hS0 ?_) | (refine wpHG_soft (by rfl) hS0 (by intro w' hSw; obtain ⟨q0, q1, q2, q3, q4, q5, q6⟩ := hSw; go_simp; rfl) ?_)
                  simp only [Act.put, List.setIfInBounds_toArray, List.set_cons_zero, List.set_cons_succ]
                  refine wpHG_soft (v := .bool true) (by rfl) hS0 (by intro w' hSw; obtain ⟨q0, q1, q2, q3, q4, q5, q6⟩ := hSw; go_simp) ?_
                  simp only [Act.put, List.setIfInBounds_toArray, List.set_cons_zero, List.set_cons_succ]
                  first | (refine wpHG_off (by rfl) hS0 ?_) | (refine wpHG_soft (by rfl) hS0 (by intro w' hSw; obtain ⟨q0, q1, q2, q3, q4, q5, q6⟩ := hSw; go_simp; rfl) ?_)
                  simp only [Act.put, List.setIfInBounds_toArray, List.set_cons_zero, List.set_cons_succ]
                  first | (refine wpHG_off (by rfl) hS0 ?_) | (refine wpHG_soft (by rfl) hS0 (by intro w' hSw; obtain ⟨q0, q1, q2, q3, q4, q5, q6⟩ := hSw; go_simp; rfl) ?_)
                  simp only [Act.put, List.setIfInBounds_toArray, List.set_cons_zero, List.set_cons_succ]
                  first | (refine wpHG_off (by rfl) hS0 ?_) | (refine wpHG_soft (by rfl) hS0 (by intro w' hSw; obtain ⟨q0, q1, q2, q3, q4, q5, q6⟩ := hSw; go_simp; rfl) ?_)
                  simp only [Act.put, List.setIfInBounds_toArray, List.set_cons_zero, List.set_cons_succ]
                  first | (refine wpHG_off (by rfl) hS0 ?_) | (refine wpHG_soft (by rfl) hS0 (by intro w' hSw; obtain ⟨q0, q1, q2, q3, q4, q5, q6⟩ := hSw; go_simp; rfl) ?_)
                  simp only [Act.put, List.setIfInBounds_toArray, List.set_cons_zero, List.set_cons_succ]
                  first | (refine wpHG_off (by rfl) hS0 ?_) | (refine wpHG_soft (by rfl) hS0 (by intro w' hSw; obtain ⟨q0, q1, q2, q3, q4, q5, q6⟩ := hSw; go_simp; rfl) ?_)
                  simp only [Act.put, List.setIfInBounds_toArray, List.set_cons_zero, List.set_cons_succ]
                  first | (refine wpHG_off (by rfl) hS0 ?_) | (refine wpHG_soft (by rfl) hS0 (by intro w' hSw; obtain ⟨q0, q1, q2, q3, q4, q5, q6⟩ := hSw; go_simp; rfl) ?_)
                  simp only [Act.put, List.setIfInBounds_toArray, List.set_cons_zero, List.set_cons_succ]
                  first | (refine wpHG_off (by rfl) hS0 ?_) | (refine wpHG_soft (by rfl) hS0 (by intro w' hSw; obtain ⟨q0, q1, q2, q3, q4, q5, q6⟩ := hSw; go_simp; rfl) ?_)
                  simp only [Act.put, List.setIfInBounds_toArray, List.set_cons_zero, List.set_cons_succ]
                  first | (refine wpHG_off (by rfl) hS0 ?_) | (refine wpHG_soft (by rfl) hS0 (by intro w' hSw; obtain ⟨q0, q1, q2, q3, q4, q5, q6⟩ := hSw; go_simp; rfl) ?_)
                  simp only [Act.put, List.setIfInBounds_toArray, List.set_cons_zero, List.set_cons_succ]
                  first | (refine wpHG_off (by rfl) hS0 ?_) | (refine wpHG_soft (by rfl) hS0 (by intro w' hSw; obtain ⟨q0, q1, q2, q3, q4, q5, q6⟩ := hSw; go_simp; rfl) ?_)
                  simp only [Act.put, List.setIfInBounds_toArray, List.set_cons_zero, List.set_cons_succ]
                  first | (refine wpHG_off (by rfl) hS0 ?_) | (refine wpHG_soft (by rfl) hS0 (by intro w' hSw; obtain ⟨q0, q1, q2, q3, q4, q5, q6⟩ := hSw; go_simp; rfl) ?_)
                  simp only [Act.put, List.setIfInBounds_toArray, List.set_cons_zero, List.set_cons_succ]
                  first | (refine wpHG_off (by rfl) hS0 ?_) | (refine wpHG_soft (by rfl) hS0 (by intro w' hSw; obtain ⟨q0, q1, q2, q3, q4, q5, q6⟩ := hSw; go_simp; rfl) ?_)
                  simp only [Act.put, List.setIfInBounds_toArray, List.set_cons_zero, List.set_cons_succ]
                  first | (refine wpHG_off (by rfl) hS0 ?_) | (refine wpHG_soft (by rfl) hS0 (by intro w' hSw; obtain ⟨q0, q1, q2, q3, q4, q5, q6⟩ := hSw; go_simp; rfl) ?_)
                  simp only [Act.put, List.setIfInBounds_toArray, List.set_cons_zero, List.set_cons_succ]
                  first | (refine wpHG_off (by rfl) hS0 ?_) | (refine wpHG_soft (by rfl) hS0 (by intro w' hSw; obtain ⟨q0, q1, q2, q3, q4, q5, q6⟩ := hSw; go_simp; rfl) ?_)
                  simp only [Act.put, List.setIfInBounds_toArray, List.set_cons_zero, List.set_cons_succ]
                  first | (refine wpHG_off (by rfl) hS0 ?_) | (refine wpHG_soft (by rfl) hS0 (by intro w' hSw; obtain ⟨q0, q1, q2, q3, q4, q5, q6⟩ := hSw; go_simp; rfl) ?_)
                  simp only [Act.put, List.setIfInBounds_toArray, List.set_cons_zero, List.set_cons_succ]
                  first | (refine wpHG_off (by rfl) hS0 ?_) | (refine wpHG_soft (by rfl) hS0 (by intro w' hSw; obtain ⟨q0, q1, q2, q3, q4, q5, q6⟩ := hSw; go_simp; rfl) ?_)
                  simp only [Act.put, List.setIfInBounds_toArray, List.set_cons_zero, List.set_cons_succ]
                  first | (refine wpHG_off (by rfl) hS0 ?_) | (refine wpHG_soft (by rfl) hS0 (by intro w' hSw; obtain ⟨q0, q1, q2, q3, q4, q5, q6⟩ := hSw; go_simp; rfl) ?_)
                  simp only [Act.put, List.setIfInBounds_toArray, List.set_cons_zero, List.set_cons_succ]
                  first | (refine wpHG_off (by rfl) hS0 ?_) | (refine wpHG_soft (by rfl) hS0 (by intro w' hSw; obtain ⟨q0, q1, q2, q3, q4, q5, q6⟩ := hSw; go_simp; rfl) ?_)
                  simp only [Act.put, List.setIfInBounds_toArray, List.set_cons_zero, List.set_cons_succ]
                  first | (refine wpHG_off (by rfl) hS0 ?_) | (refine wpHG_soft (by rfl) hS0 (by intro w' hSw; obtain ⟨q0, q1, q2, q3, q4, q5, q6⟩ := hSw; go_simp; rfl) ?_)
                  simp only [Act.put, List.setIfInBounds_toArray, List.set_cons_zero, List.set_cons_succ]
                  first | (refine wpHG_off (by rfl) hS0 ?_) | (refine wpHG_soft (by rfl) hS0 (by intro w' hSw; obtain ⟨q0, q1, q2, q3, q4, q5, q6⟩ := hSw; go_simp; rfl) ?_)
                  simp only [Act.put, List.setIfInBounds_toArray, List.set_cons_zero, List.set_cons_succ]
                  first | (refine wpHG_off (by rfl) hS0 ?_) | (refine wpHG_soft (by rfl) hS0 (by intro w' hSw; obtain ⟨q0, q1, q2, q3, q4, q5, q6⟩ := hSw; go_simp; rfl) ?_)
                  simp only [Act.put, List.setIfInBounds_toArray, List.set_cons_zero, List.set_cons_succ]
                  first | (refine wpHG_off (by rfl) hS0 ?_) | (refine wpHG_soft (by rfl) hS0 (by intro w' hSw; obtain ⟨q0, q1, q2, q3, q4, q5, q6⟩ := hSw; go_simp; rfl) ?_)
                  simp only [Act.put, List.setIfInBounds_toArray, List.set_cons_zero, List.set_cons_succ]
                  first | (refine wpHG_off (by rfl) hS0 ?_) | (refine wpHG_soft (by rfl) hS0 (by intro w' hSw; obtain ⟨q0, q1, q2, q3, q4, q5, q6⟩ := hSw; go_simp; rfl) ?_)
                  simp only [Act.put, List.setIfInBounds_toArray, List.set_cons_zero, List.set_cons_succ]
                  first | (refine wpHG_off (by rfl) hS0 ?_) | (refine wpHG_soft (by rfl) hS0 (by intro w' hSw; obtain ⟨q0, q1, q2, q3, q4, q5, q6⟩ := hSw; go_simp; rfl) ?_)
                  simp only [Act.put, List.setIfInBounds_toArray, List.set_cons_zero, List.set_cons_succ]
                  first | (refine wpHG_off (by rfl) hS0 ?_) | (refine wpHG_soft (by rfl) hS0 (by intro w' hSw; obtain ⟨q0, q1, q2, q3, q4, q5, q6⟩ := hSw; go_simp; rfl) ?_)
                  simp only [Act.put, List.setIfInBounds_toArray, List.set_cons_zero, List.set_cons_succ]
                  first | (refine wpHG_off (by rfl) hS0 ?_) | (refine wpHG_soft (by rfl) hS0 (by intro w' hSw; obtain ⟨q0, q1, q2, q3, q4, q5, q6⟩ := hSw; go_simp; rfl) ?_)
                  simp only [Act.put, List.setIfInBounds_toArray, List.set_cons_zero, List.set_cons_succ]
                  first | (refine wpHG_off (by rfl) hS0 ?_) | (refine wpHG_soft (by rfl) hS0 (by intro w' hSw; obtain ⟨q0, q1, q2, q3, q4, q5, q6⟩ := hSw; go_simp; rfl) ?_)
                  simp only [Act.put, List.setIfInBounds_toArray, List.set_cons_zero, List.set_cons_succ]
                  first | (refine wpHG_off (by rfl) hS0 ?_) | (refine wpHG_soft (by rfl) hS0 (by intro w' hSw; obtain ⟨q0, q1, q2, q3, q4, q5, q6⟩ := hSw; go_simp; rfl) ?_)
                  simp only [Act.put, List.setIfInBounds_toArray, List.set_cons_zero, List.set_cons_succ]
                  first | (refine wpHG_off (by rfl) hS0 ?_) | (refine wpHG_soft (by rfl) hS0 (by intro w' hSw; obtain ⟨q0, q1, q2, q3, q4, q5, q6⟩ := hSw; go_simp; rfl) ?_)
                  simp only [Act.put, List.setIfInBounds_toArray, List.set_cons_zero, List.set_cons_succ]
                  first | (refine wpHG_off (by rfl) hS0 ?_) | (refine wpHG_soft (by rfl) hS0 (by intro w' hSw; obtain ⟨q0, q1, q2, q3, q4, q5, q6⟩ := hSw; go_simp; rfl) ?_)
                  simp only [Act.put, List.setIfInBounds_toArray, List.set_cons_zero, List.set_cons_succ]
                  first | (refine wpHG_off (by rfl) hS0 ?_) | (refine wpHG_soft (by rfl) hS0 (by intro w' hSw; obtain ⟨q0, q1, q2, q3, q4, q5, q6⟩ := hSw; go_simp; rfl) ?_)
                  simp only [Act.put, List.setIfInBounds_toArray, List.set_cons_zero, List.set_cons_succ]
                  first | (refine wpHG_off (by rfl) hS0 ?_) | (refine wpHG_soft (by rfl) hS0 (by intro w' hSw; obtain ⟨q0, q1, q2, q3, q4, q5, q6⟩ := hSw; go_simp; rfl) ?_)
                  simp only [Act.put, List.setIfInBounds_toArray, List.set_cons_zero, List.set_cons_succ]
                  first | (refine wpHG_off (by rfl) hS0 ?_) | (refine wpHG_soft (by rfl) hS0 (by intro w' hSw; obtain ⟨q0, q1, q2, q3, q4, q5, q6⟩ := hSw; go_simp; rfl) ?_)
                  simp only [Act.put, List.setIfInBounds_toArray, List.set_cons_zero, List.set_cons_succ]
                  first | (refine wpHG_off (by rfl) hS0 ?_) | (refine wpHG_soft (by rfl) hS0 (by intro w' hSw; obtain ⟨q0, q1, q2, q3, q4, q5, q6⟩ := hSw; go_simp; rfl) ?_)
                  simp only [Act.put, List.setIfInBounds_toArray, List.set_cons_zero, List.set_cons_succ]
                  first | (refine wpHG_off (by rfl) hS0 ?_) | (refine wpHG_soft (by rfl) hS0 (by intro w' hSw; obtain ⟨q0, q1, q2, q3, q4, q5, q6⟩ := hSw; go_simp; rfl) ?_)
                  simp only [Act.put, List.setIfInBounds_toArray, List.set_cons_zero, List.set_cons_succ]
                  first | (refine wpHG_off (by rfl) hS0 ?_) | (refine wpHG_soft (by rfl) hS0 (by intro w' hSw; obtain ⟨q0, q1, q2, q3, q4, q5, q6⟩ := hSw; go_simp; rfl) ?_)
                  simp only [Act.put, List.setIfInBounds_toArray, List.set_cons_zero, List.set_cons_succ]
                  first | (refine wpHG_off (by rfl) hS0 ?_) | (refine wpHG_soft (by rfl) hS0 (by intro w' hSw; obtain ⟨q0, q1, q2, q3, q4, q5, q6⟩ := hSw; go_simp; rfl) ?_)
                  simp only [Act.put, List.setIfInBounds_toArray, List.set_cons_zero, List.set_cons_succ]
                  first | (refine wpHG_off (by rfl) hS0 ?_) | (refine wpHG_soft (by rfl) hS0 (by intro w' hSw; obtain ⟨q0, q1, q2, q3, q4, q5, q6⟩ := hSw; go_simp; rfl) ?_)
                  simp only [Act.put, List.setIfInBounds_toArray, List.set_cons_zero, List.set_cons_succ]
                  first | (refine wpHG_off (by rfl) hS0 ?_) | (refine wpHG_soft (by rfl) hS0 (by intro w' hSw; obtain ⟨q0, q1, q2, q3, q4, q5, q6⟩ := hSw; go_simp; rfl) ?_)
                  simp only [Act.put, List.setIfInBounds_toArray, List.set_cons_zero, List.set_cons_succ]
                  first | (refine wpHG_off (by rfl) hS0 ?_) | (refine wpHG_soft (by rfl) hS0 (by intro w' hSw; obtain ⟨q0, q1, q2, q3, q4, q5, q6⟩ := hSw; go_simp; rfl) ?_)
                  simp only [Act.put, List.setIfInBounds_toArray, List.set_cons_zero, List.set_cons_succ]
                  first | (refine wpHG_off (by rfl) hS0 ?_) | (refine wpHG_soft (by rfl) hS0 (by intro w' hSw; obtain ⟨q0, q1, q2, q3, q4, q5, q6⟩ := hSw; go_simp; rfl) ?_)
                  simp only [Act.put, List.setIfInBounds_toArray, List.set_cons_zero, List.set_cons_succ]
                  first | (refine wpHG_off (by rfl) hS0 ?_) | (refine wpHG_soft (by rfl) hS0 (by intro w' hSw; obtain ⟨q0, q1, q2, q3, q4, q5, q6⟩ := hSw; go_simp; rfl) ?_)
                  simp only [Act.put, List.setIfInBounds_toArray, List.set_cons_zero, List.set_cons_succ]
                  first | (refine wpHG_off (by rfl) hS0 ?_) | (refine wpHG_soft (by rfl) hS0 (by intro w' hSw; obtain ⟨q0, q1, q2, q3, q4, q5, q6⟩ := hSw; go_simp; rfl) ?_)
                  simp only [Act.put, List.setIfInBounds_toArray, List.set_cons_zero, List.set_cons_succ]
                  refine wpHG_nil ?_
                  clear hS0
                  go_wp2_with fail
                  go_roundg (gk - 1)
                  case measure => have := HK.out; omega
                  case rel => exact ⟨k + 1, _, by have := HK.out; omega, by go_num, rfl, Lib.hid (found_ahead HFD.out E1.out HY.out HU.out (by unfold ahD; omega)), HB6.out.drew⟩
              · by_cases h2 : x.dg.at_ = y.dg.at_
                · have h2b : (x.dg.at_ == y.dg.at_) = true := by simp [h2]
                  have H12 := Lib.hid (And.intro h1 h2)
                  clear h2
                  by_cases h3 : x.dg.fin < y.dg.fin
                  · have h3b : (x.dg.fin == y.dg.fin) = false := by simp; omega
                    as_aux_lemma =>
                      go_wp2_with (rw [hW6])
                      refine wp_region_HG (fun W' => W'.cell? ⟨gu, k, none⟩ = some (.bool false) ∧ W'.cell? ⟨wr.heap.size, 0, none⟩ = some (.int .i64 x.dg.code) ∧ W'.cell? ⟨wr.heap.size, 1, none⟩ = some (.int .i64 x.dg.at_) ∧ W'.cell? ⟨wr.heap.size, 2, none⟩ = some (.int .i64 x.dg.fin) ∧ W'.cell? ⟨b1, o1 + m * 5, none⟩ = some (.int .i64 y.dg.code) ∧ W'.cell? ⟨b1, o1 + m * 5 + 1, none⟩ = some (.int .i64 y.dg.at_) ∧ W'.cell? ⟨b1, o1 + m * 5 + 2, none⟩ = some (.int .i64 y.dg.fin)) [] [true, true, true, true, true, true, true, true, true, true, true, true, true, true, true, true, true, true, true, true, true, true, true, true, true, true, true, true, true, true, true, true, true, true, true, true, true, true, true, true, true, true, true, true, true, true, true, true, true, true, true, true, true, true, true, true, true, true, true] (by kernel_rfl) (by kernel_rfl) rfl (by kernel_rfl) ?_
                      have hS0 := HSS.out
                      first | (refine wpHG_off (by rfl) hS0 ?_) | (refine wpHG_soft (by rfl) hS0 (by intro w' hSw; obtain ⟨q0, q1, q2, q3, q4, q5, q6⟩ := hSw; go_simp; rfl) ?_)
                      simp only [Act.put, List.setIfInBounds_toArray, List.set_cons_zero, List.set_cons_succ]
                      first | (refine wpHG_off (by rfl) hS0 ?_) | (refine wpHG_soft (by rfl) hS0 (by intro w' hSw; obtain ⟨q0, q1, q2, q3, q4, q5, q6⟩ := hSw; go_simp; rfl) ?_)
                      simp only [Act.put, List.setIfInBounds_toArray, List.set_cons_zero, List.set_cons_succ]
                      first | (refine wpHG_off (by rfl) hS0 ?_) | (refine wpHG_soft (by rfl) hS0 (by intro w' hSw; obtain ⟨q0, q1, q2, q3, q4, q5, q6⟩ := hSw; go_simp; rfl) ?_)
                      simp only [Act.put, List.setIfInBounds_toArray, List.set_cons_zero, List.set_cons_succ]
                      first | (refine wpHG_off (by rfl) hS0 ?_) | (refine wpHG_soft (by rfl) hS0 (by intro w' hSw; obtain ⟨q0, q1, q2, q3, q4, q5, q6⟩ := hSw; go_simp; rfl) ?_)
                      simp only [Act.put, List.setIfInBounds_toArray, List.set_cons_zero, List.set_cons_succ]
                      refine wpHG_soft (v := .bool true) (by rfl) hS0 (by intro w' hSw; obtain ⟨q0, q1, q2, q3, q4, q5, q6⟩ := hSw; go_simp) ?_
                      simp only [Act.put, List.setIfInBounds_toArray, List.set_cons_zero, List.set_cons_succ]
                      first | (refine wpHG_off (by rfl) hS0 ?_) | (refine wpHG_soft (by rfl) hS0 (by intro w' hSw; obtain ⟨q0, q1, q2, q3, q4, q5, q6⟩ := hSw; go_simp; rfl) ?_)
                      simp only [Act.put, List.setIfInBounds_toArray, List.set_cons_zero, List.set_cons_succ]
                      first | (refine wpHG_off (by rfl) hS0 ?_) | (refine wpHG_soft (by rfl) hS0 (by intro w' hSw; obtain ⟨q0, q1, q2, q3, q4, q5, q6⟩ := hSw; go_simp; rfl) ?_)
                      simp only [Act.put, List.setIfInBounds_toArray, List.set_cons_zero, List.set_cons_succ]
                      refine wpHG_soft (v := .bool false) (by rfl) hS0 (by intro w' hSw; obtain ⟨q0, q1, q2, q3, q4, q5, q6⟩ := hSw; go_simp) ?_
                      simp only [Act.put, List.setIfInBounds_toArray, List.set_cons_zero, List.set_cons_succ]
                      first | (refine wpHG_off (by rfl) hS0 ?_) | (refine wpHG_soft (by rfl) hS0 (by intro w' hSw; obtain ⟨q0, q1, q2, q3, q4, q5, q6⟩ := hSw; go_simp; rfl) ?_)
                      simp only [Act.put, List.setIfInBounds_toArray, List.set_cons_zero, List.set_cons_succ]
                      first | (refine wpHG_off (by rfl) hS0 ?_) | (refine wpHG_soft (by rfl) hS0 (by intro w' hSw; obtain ⟨q0, q1, q2, q3, q4, q5, q6⟩ := hSw; go_simp; rfl) ?_)
                      simp only [Act.put, List.setIfInBounds_toArray, List.set_cons_zero, List.set_cons_succ]
                      first | (refine wpHG_off (by rfl) hS0 ?_) | (refine wpHG_soft (by rfl) hS0 (by intro w' hSw; obtain ⟨q0, q1, q2, q3, q4, q5, q6⟩ := hSw; go_simp; rfl) ?_)
                      simp only [Act.put, List.setIfInBounds_toArray, List.set_cons_zero, List.set_cons_succ]
                      first | (refine wpHG_off (by rfl) hS0 ?_) | (refine wpHG_soft (by rfl) hS0 (by intro w' hSw; obtain ⟨q0, q1, q2, q3, q4, q5, q6⟩ := hSw; go_simp; rfl) ?_)
                      simp only [Act.put, List.setIfInBounds_toArray, List.set_cons_zero, List.set_cons_succ]
                      first | (refine wpHG_off (by rfl) hS0 ?_) | (refine wpHG_soft (by rfl) hS0 (by intro w' hSw; obtain ⟨q0, q1, q2, q3, q4, q5, q6⟩ := hSw; go_simp; rfl) ?_)
                      simp only [Act.put, List.setIfInBounds_toArray, List.set_cons_zero, List.set_cons_succ]
                      first | (refine wpHG_off (by rfl) hS0 ?_) | (refine wpHG_soft (by rfl) hS0 (by intro w' hSw; obtain ⟨q0, q1, q2, q3, q4, q5, q6⟩ := hSw; go_simp; rfl) ?_)
                      simp only [Act.put, List.setIfInBounds_toArray, List.set_cons_zero, List.set_cons_succ]
                      first | (refine wpHG_off (by rfl) hS0 ?_) | (refine wpHG_soft (by rfl) hS0 (by intro w' hSw; obtain ⟨q0, q1, q2, q3, q4, q5, q6⟩ := hSw; go_simp; rfl) ?_)
                      simp only [Act.put, List.setIfInBounds_toArray, List.set_cons_zero, List.set_cons_succ]
                      first | (refine wpHG_off (by rfl) hS0 ?_) | (refine wpHG_soft (by rfl) hS0 (by intro w' hSw; obtain ⟨q0, q1, q2, q3, q4, q5, q6⟩ := hSw; go_simp; rfl) ?_)
                      simp only [Act.put, List.setIfInBounds_toArray, List.set_cons_zero, List.set_cons_succ]
                      refine wpHG_soft (v := .bool false) (by rfl) hS0 (by intro w' hSw; obtain ⟨q0, q1, q2, q3, q4, q5, q6⟩ := hSw; go_simp) ?_
                      simp only [Act.put, List.setIfInBounds_toArray, List.set_cons_zero, List.set_cons_succ]
                      first | (refine wpHG_off (by rfl) hS0 ?_) | (refine wpHG_soft (by rfl) hS0 (by intro w' hSw; obtain ⟨q0, q1, q2, q3, q4, q5, q6⟩ := hSw; go_simp; rfl) ?_)
                      simp only [Act.put, List.setIfInBounds_toArray, List.set_cons_zero, List.set_cons_succ]
                      first | (refine wpHG_off (by rfl) hS0 ?_) | (refine wpHG_soft (by rfl) hS0 (by intro w' hSw; obtain ⟨q0, q1, q2, q3, q4, q5, q6⟩ := hSw; go_simp; rfl) ?_)
                      simp only [Act.put, List.setIfInBounds_toArray, List.set_cons_zero, List.set_cons_succ]
                      first | (refine wpHG_off (by rfl) hS0 ?_) | (refine wpHG_soft (by rfl) hS0 (by intro w' hSw; obtain ⟨q0, q1, q2, q3, q4, q5, q6⟩ := hSw; go_simp; rfl) ?_)
                      simp only [Act.put, List.setIfInBounds_toArray, List.set_cons_zero, List.set_cons_succ]
                      first | (refine wpHG_off (by rfl) hS0 ?_) | (refine wpHG_soft (by rfl) hS0 (by intro w' hSw; obtain ⟨q0, q1, q2, q3, q4, q5, q6⟩ := hSw; go_simp; rfl) ?_)
                      simp only [Act.put, List.setIfInBounds_toArray, List.set_cons_zero, List.set_cons_succ]
                      first | (refine wpHG_off (by rfl) hS0 ?_) | (refine wpHG_soft (by rfl) hS0 (by intro w' hSw; obtain ⟨q0, q1, q2, q3, q4, q5, q6⟩ := hSw; go_simp; rfl) ?_)
                      simp only [Act.put, List.setIfInBounds_toArray, List.set_cons_zero, List.set_cons_succ]
                      first | (refine wpHG_off (by rfl) hS0 ?_) | (refine wpHG_soft (by rfl) hS0 (by intro w' hSw; obtain ⟨q0, q1, q2, q3, q4, q5, q6⟩ := hSw; go_simp; rfl) ?_)
                      simp only [Act.put, List.setIfInBounds_toArray, List.set_cons_zero, List.set_cons_succ]
                      first | (refine wpHG_off (by rfl) hS0 ?_) | (refine wpHG_soft (by rfl) hS0 (by intro w' hSw; obtain ⟨q0, q1, q2, q3, q4, q5, q6⟩ := hSw; go_simp; rfl) ?_)
                      simp only [Act.put, List.setIfInBounds_toArray, List.set_cons_zero, List.set_cons_succ]
                      first | (refine wpHG_off (by rfl) hS0 ?_) | (refine wpHG_soft (by rfl) hS0 (by intro w' hSw; obtain ⟨q0, q1, q2, q3, q4, q5, q6⟩ := hSw; go_simp; rfl) ?_)
                      simp only [Act.put, List.setIfInBounds_toArray, List.set_cons_zero, List.set_cons_succ]
                      first | (refine wpHG_off (by rfl) hS0 ?_) | (refine wpHG_soft (by rfl) hS0 (by intro w' hSw; obtain ⟨q0, q1, q2, q3, q4, q5, q6⟩ := hSw; go_simp; rfl) ?_)
                      simp only [Act.put, List.setIfInBounds_toArray, List.set_cons_zero, List.set_cons_succ]
                      refine wpHG_soft (v := .bool true) (by rfl) hS0 (by intro w' hSw; obtain ⟨q0, q1, q2, q3, q4, q5, q6⟩ := hSw; go_simp) ?_
                      simp only [Act.put, List.setIfInBounds_toArray, List.set_cons_zero, List.set_cons_succ]
                      first | (refine wpHG_off (by rfl) hS0 ?_) | (refine wpHG_soft (by rfl) hS0 (by intro w' hSw; obtain ⟨q0, q1, q2, q3, q4, q5, q6⟩ := hSw; go_simp; rfl) ?_)
                      simp only [Act.put, List.setIfInBounds_toArray, List.set_cons_zero, List.set_cons_succ]
                      first | (refine wpHG_off (by rfl) hS0 ?_) | (refine wpHG_soft (by rfl) hS0 (by intro w' hSw; obtain ⟨q0, q1, q2, q3, q4, q5, q6⟩ := hSw; go_simp; rfl) ?_)
                      simp only [Act.put, List.setIfInBounds_toArray, List.set_cons_zero, List.set_cons_succ]
                      first | (refine wpHG_off (by rfl) hS0 ?_) | (refine wpHG_soft (by rfl) hS0 (by intro w' hSw; obtain ⟨q0, q1, q2, q3, q4, q5, q6⟩ := hSw; go_simp; rfl) ?_)
                      simp only [Act.put, List.setIfInBounds_toArray, List.set_cons_zero, List.set_cons_succ]
                      first | (refine wpHG_off (by rfl) hS0 ?_) | (refine wpHG_soft (by rfl) hS0 (by intro w' hSw; obtain ⟨q0, q1, q2, q3, q4, q5, q6⟩ := hSw; go_simp; rfl) ?_)
                      simp only [Act.put, List.setIfInBounds_toArray, List.set_cons_zero, List.set_cons_succ]
                      first | (refine wpHG_off (by rfl) hS0 ?_) | (refine wpHG_soft (by rfl) hS0 (by intro w' hSw; obtain ⟨q0, q1, q2, q3, q4, q5, q6⟩ := hSw; go_simp; rfl) ?_)
                      simp only [Act.put, List.setIfInBounds_toArray, List.set_cons_zero, List.set_cons_succ]
                      first | (refine wpHG_off (by rfl) hS0 ?_) | (refine wpHG_soft (by rfl) hS0 (by intro w' hSw; obtain ⟨q0, q1, q2, q3, q4, q5, q6⟩ := hSw; go_simp; rfl) ?_)
                      simp only [Act.put, List.setIfInBounds_toArray, List.set_cons_zero, List.set_cons_succ]
                      first | (refine wpHG_off (by rfl) hS0 ?_) | (refine wpHG_soft (by rfl) hS0 (by intro w' hSw; obtain ⟨q0, q1, q2, q3, q4, q5, q6⟩ := hSw; go_simp; rfl) ?_)
                      simp only [Act.put, List.setIfInBounds_toArray, List.set_cons_zero, List.set_cons_succ]
                      first | (refine wpHG_off (by rfl) hS0 ?_) | (refine wpHG_soft (by rfl) hS0 (by intro w' hSw; obtain ⟨q0, q1, q2, q3, q4, q5, q6⟩ := hSw; go_simp; rfl) ?_)
                      simp only [Act.put, List.setIfInBounds_toArray, List.set_cons_zero, List.set_cons_succ]
                      refine wpHG_soft (v := .bool true) (by rfl) hS0 (by intro w' hSw; obtain ⟨q0, q1, q2, q3, q4, q5, q6⟩ := hSw; go_simp) ?_
                      simp only [Act.put, List.setIfInBounds_toArray, List.set_cons_zero, List.set_cons_succ]
                      first | (refine wpHG_off (by rfl) hS0 ?_) | (refine wpHG_soft (by rfl) hS0 (by intro w' hSw; obtain ⟨q0, q1, q2, q3, q4, q5, q6⟩ := hSw; go_simp; rfl) ?_)
                      simp only [Act.put, List.setIfInBounds_toArray, List.set_cons_zero, List.set_cons_succ]
                      first | (refine wpHG_off (by rfl) hS0 ?_) | (refine wpHG_soft (by rfl) hS0 (by intro w' hSw; obtain ⟨q0, q1, q2, q3, q4, q5, q6⟩ := hSw; go_simp; rfl) ?_)
                      simp only [Act.put, List.setIfInBounds_toArray, List.set_cons_zero, List.set_cons_succ]
                      first | (refine wpHG_off (by rfl) hS0 ?_) | (refine wpHG_soft (by rfl) hS0 (by intro w' hSw; obtain ⟨q0, q1, q2, q3, q4, q5, q6⟩ := hSw; go_simp; rfl) ?_)
                      simp only [Act.put, List.setIfInBounds_toArray, List.set_cons_zero, List.set_cons_succ]
                      first | (refine wpHG_off (by rfl) hS0 ?_) | (refine wpHG_soft (by rfl) hS0 (by intro w' hSw; obtain ⟨q0, q1, q2, q3, q4, q5, q6⟩ := hSw; go_simp; rfl) ?_)
                      simp only [Act.put, List.setIfInBounds_toArray, List.set_cons_zero, List.set_cons_succ]
                      first | (refine wpHG_off (by rfl) hS0 ?_) | (refine wpHG_soft (by rfl) hS0 (by intro w' hSw; obtain ⟨q0, q1, q2, q3, q4, q5, q6⟩ := hSw; go_simp; rfl) ?_)
                      simp only [Act.put, List.setIfInBounds_toArray, List.set_cons_zero, List.set_cons_succ]
                      first | (refine wpHG_off (by rfl) hS0 ?_) | (refine wpHG_soft (by rfl) hS0 (by intro w' hSw; obtain ⟨q0, q1, q2, q3, q4, q5, q6⟩ := hSw; go_simp; rfl) ?_)
                      simp only [Act.put, List.setIfInBounds_toArray, List.set_cons_zero, List.set_cons_succ]
                      first | (refine wpHG_off (by rfl) hS0 ?_) | (refine wpHG_soft (by rfl) hS0 (by intro w' hSw; obtain ⟨q0, q1, q2, q3, q4, q5, q6⟩ := hSw; go_simp; rfl) ?_)
                      simp only [Act.put, List.setIfInBounds_toArray, List.set_cons_zero, List.set_cons_succ]
                      first | (refine wpHG_off (by rfl) hS0 ?_) | (refine wpHG_soft (by rfl) hS0 (by intro w' hSw; obtain ⟨q0, q1, q2, q3, q4, q5, q6⟩ := hSw; go_simp; rfl) ?_)
                      simp only [Act.put, List.setIfInBounds_toArray, List.set_cons_zero, List.set_cons_succ]
                      first | (refine wpHG_off (by rfl) hS0 ?_) | (refine wpHG_soft (by rfl) hS0 (by intro w' hSw; obtain ⟨q0, q1, q2, q3, q4, q5, q6⟩ := hSw; go_simp; rfl) ?_)
                      simp only [Act.put, List.setIfInBounds_toArray, List.set_cons_zero, List.set_cons_succ]
                      first | (refine wpHG_off (by rfl) hS0 ?_) | (refine wpHG_soft (by rfl) hS0 (by intro w' hSw; obtain ⟨q0, q1, q2, q3, q4, q5, q6⟩ := hSw; go_simp; rfl) ?_)
                      simp only [Act.put, List.setIfInBounds_toArray, List.set_cons_zero, List.set_cons_succ]
                      first | (refine wpHG_off (by rfl) hS0 ?_) | (refine wpHG_soft (by rfl) hS0 (by intro w' hSw; obtain ⟨q0, q1, q2, q3, q4, q5, q6⟩ := hSw; go_simp; rfl) ?_)
                      simp only [Act.put, List.setIfInBounds_toArray, List.set_cons_zero, List.set_cons_succ]
                      first | (refine wpHG_off (by rfl) hS0 ?_) | (refine wpHG_soft (by rfl) hS0 (by intro w' hSw; obtain ⟨q0, q1, q2, q3, q4, q5, q6⟩ := hSw; go_simp; rfl) ?_)
                      simp only [Act.put, List.setIfInBounds_toArray, List.set_cons_zero, List.set_cons_succ]
                      first | (refine wpHG_off (by rfl) hS0 ?_) | (refine wpHG_soft (by rfl) hS0 (by intro w' hSw; obtain ⟨q0, q1, q2, q3, q4, q5, q6⟩ := hSw; go_simp; rfl) ?_)
                      simp only [Act.put, List.setIfInBounds_toArray, List.set_cons_zero, List.set_cons_succ]
                      first | (refine wpHG_off (by rfl) hS0 ?_) | (refine wpHG_soft (by rfl) hS0 (by intro w' hSw; obtain ⟨q0, q1, q2, q3, q4, q5, q6⟩ := hSw; go_simp; rfl) ?_)
                      simp only [Act.put, List.setIfInBounds_toArray, List.set_cons_zero, List.set_cons_succ]
                      first | (refine wpHG_off (by rfl) hS0 ?_) | (refine wpHG_soft (by rfl) hS0 (by intro w' hSw; obtain ⟨q0, q1, q2, q3, q4, q5, q6⟩ := hSw; go_simp; rfl) ?_)
                      simp only [Act.put, List.setIfInBounds_toArray, List.set_cons_zero, List.set_cons_succ]
                      first | (refine wpHG_off (by rfl) hS0 ?_) | (refine wpHG_soft (by rfl) hS0 (by intro w' hSw; obtain ⟨q0, q1, q2, q3, q4, q5, q6⟩ := hSw; go_simp; rfl) ?_)
                      simp only [Act.put, List.setIfInBounds_toArray, List.set_cons_zero, List.set_cons_succ]
                      first | (refine wpHG_off (by rfl) hS0 ?_) | (refine wpHG_soft (by rfl) hS0 (by intro w' hSw; obtain ⟨q0, q1, q2, q3, q4, q5, q6⟩ := hSw; go_simp; rfl) ?_)
                      simp only [Act.put, List.setIfInBounds_toArray, List.set_cons_zero, List.set_cons_succ]
                      first | (refine wpHG_off (by rfl) hS0 ?_) | (refine wpHG_soft (by rfl) hS0 (by intro w' hSw; obtain ⟨q0, q1, q2, q3, q4, q5, q6⟩ := hSw; go_simp; rfl) ?_)
                      simp only [Act.put, List.setIfInBounds_toArray, List.set_cons_zero, List.set_cons_succ]
                      first | (refine wpHG_off (by rfl) hS0 ?_) | (refine wpHG_soft (by rfl) hS0 (by intro w' hSw; obtain ⟨q0, q1, q2, q3, q4, q5, q6⟩ := hSw; go_simp; rfl) ?_)
                      simp only [Act.put, List.setIfInBounds_toArray, List.set_cons_zero, List.set_cons_succ]
                      first | (refine wpHG_off (by rfl) hS0 ?_) | (refine wpHG_soft (by rfl) hS0 (by intro w' hSw; obtain ⟨q0, q1, q2, q3, q4, q5, q6⟩ := hSw; go_simp; rfl) ?_)
                      simp only [Act.put, List.setIfInBounds_toArray, List.set_cons_zero, List.set_cons_succ]
                      first | (refine wpHG_off (by rfl) hS0 ?_) | (refine wpHG_soft (by rfl) hS0 (by intro w' hSw; obtain ⟨q0, q1, q2, q3, q4, q5, q6⟩ := hSw; go_simp; rfl) ?_)
                      simp only [Act.put, List.setIfInBounds_toArray, List.set_cons_zero, List.set_cons_succ]
                      first | (refine wpHG_off (by rfl) hS0 ?_) | (refine wpHG_soft (by rfl) hS0 (by intro w' hSw; obtain ⟨q0, q1, q2, q3, q4, q5, q6⟩ := hSw; go_simp; rfl) ?_)
                      simp only [Act.put, List.setIfInBounds_toArray, List.set_cons_zero, List.set_cons_succ]
                      first | (refine wpHG_off (by rfl) hS0 ?_) | (refine wpHG_soft (by rfl) hS0 (by intro w' hSw; obtain ⟨q0, q1, q2, q3, q4, q5, q6⟩ := hSw; go_simp; rfl) ?_)
                      simp only [Act.put, List.setIfInBounds_toArray, List.set_cons_zero, List.set_cons_succ]
                      refine wpHG_nil ?_
                      clear hS0
                      go_wp2_with fail
                      go_roundg (gk - 1)
                      case measure => have := HK.out; omega
                      case rel => exact ⟨k + 1, _, by have := HK.out; omega, by go_num, rfl, Lib.hid (found_ahead HFD.out E1.out HY.out HU.out (by unfold ahD; have := H12.out.1; have := H12.out.2; omega)), HB6.out.drew⟩
                  · by_cases h4 : x.dg.fin = y.dg.fin
                    · have h4b : (x.dg.fin == y.dg.fin) = true := by simp [h4]
                      have H34 := Lib.hid (And.intro h3 h4)
                      clear h4
                      by_cases h5 : x.dg.code < y.dg.code
                      · have h5b : (x.dg.code == y.dg.code) = false := by simp; omega
                        as_aux_lemma =>
                          go_wp2_with (rw [hW6])
                          refine wp_region_HG (fun W' => W'.cell? ⟨gu, k, none⟩ = some (.bool false) ∧ W'.cell? ⟨wr.heap.size, 0, none⟩ = some (.int .i64 x.dg.code) ∧ W'.cell? ⟨wr.heap.size, 1, none⟩ = some (.int .i64 x.dg.at_) ∧ W'.cell? ⟨wr.heap.size, 2, none⟩ = some (.int .i64 x.dg.fin) ∧ W'.cell? ⟨b1, o1 + m * 5, none⟩ = some (.int .i64 y.dg.code) ∧ W'.cell? ⟨b1, o1 + m * 5 + 1, none⟩ = some (.int .i64 y.dg.at_) ∧ W'.cell? ⟨b1, o1 + m * 5 + 2, none⟩ = some (.int .i64 y.dg.fin)) [] [true, true, true, true, true, true, true, true, true, true, true, true, true, true, true, true, true, true, true, true, true, true, true, true, true, true, true, true, true, true, true, true, true, true, true, true, true, true, true, true, true, true, true, true, true, true, true, true, true, true, true, true, true, true, true, true, true, true, true] (by kernel_rfl) (by kernel_rfl) rfl (by kernel_rfl) ?_
                          have hS0 := HSS.out
                          first | (refine wpHG_off (by rfl) hS0 ?_) | (refine wpHG_soft (by rfl) hS0 (by intro w' hSw; obtain ⟨q0, q1, q2, q3, q4, q5, q6⟩ := hSw; go_simp; rfl) ?_)
                          simp only [Act.put, List.setIfInBounds_toArray, List.set_cons_zero, List.set_cons_succ]
                          first | (refine wpHG_off (by rfl) hS0 ?_) | (refine wpHG_soft (by rfl) hS0 (by intro w' hSw; obtain ⟨q0, q1, q2, q3, q4, q5, q6⟩ := hSw; go_simp; rfl) ?_)
                          simp only [Act.put, List.setIfInBounds_toArray, List.set_cons_zero, List.set_cons_succ]
                          first | (refine wpHG_off (by rfl) hS0 ?_) | (refine wpHG_soft (by rfl) hS0 (by intro w' hSw; obtain ⟨q0, q1, q2, q3, q4, q5, q6⟩ := hSw; go_simp; rfl) ?_)
                          simp only [Act.put, List.setIfInBounds_toArray, List.set_cons_zero, List.set_cons_succ]
                          first | (refine wpHG_off (by rfl) hS0 ?_) | (refine wpHG_soft (by rfl) hS0 (by intro w' hSw; obtain ⟨q0, q1, q2, q3, q4, q5, q6⟩ := hSw; go_simp; rfl) ?_)
                          simp only [Act.put, List.setIfInBounds_toArray, List.set_cons_zero, List.set_cons_succ]
                          refine wpHG_soft (v := .bool true) (by rfl) hS0 (by intro w' hSw; obtain ⟨q0, q1, q2, q3, q4, q5, q6⟩ := hSw; go_simp) ?_
                          simp only [Act.put, List.setIfInBounds_toArray, List.set_cons_zero, List.set_cons_succ]
                          first | (refine wpHG_off (by rfl) hS0 ?_) | (refine wpHG_soft (by rfl) hS0 (by intro w' hSw; obtain ⟨q0, q1, q2, q3, q4, q5, q6⟩ := hSw; go_simp; rfl) ?_)
                          simp only [Act.put, List.setIfInBounds_toArray, List.set_cons_zero, List.set_cons_succ]
                          first | (refine wpHG_off (by rfl) hS0 ?_) | (refine wpHG_soft (by rfl) hS0 (by intro w' hSw; obtain ⟨q0, q1, q2, q3, q4, q5, q6⟩ := hSw; go_simp; rfl) ?_)
                          simp only [Act.put, List.setIfInBounds_toArray, List.set_cons_zero, List.set_cons_succ]
                          refine wpHG_soft (v := .bool false) (by rfl) hS0 (by intro w' hSw; obtain ⟨q0, q1, q2, q3, q4, q5, q6⟩ := hSw; go_simp) ?_
                          simp only [Act.put, List.setIfInBounds_toArray, List.set_cons_zero, List.set_cons_succ]
                          first | (refine wpHG_off (by rfl) hS0 ?_) | (refine wpHG_soft (by rfl) hS0 (by intro w' hSw; obtain ⟨q0, q1, q2, q3, q4, q5, q6⟩ := hSw; go_simp; rfl) ?_)
                          simp only [Act.put, List.setIfInBounds_toArray, List.set_cons_zero, List.set_cons_succ]
                          first | (refine wpHG_off (by rfl) hS0 ?_) | (refine wpHG_soft (by rfl) hS0 (by intro w' hSw; obtain ⟨q0, q1, q2, q3, q4, q5, q6⟩ := hSw; go_simp; rfl) ?_)
                          simp only [Act.put, List.setIfInBounds_toArray, List.set_cons_zero, List.set_cons_succ]
                          first | (refine wpHG_off (by rfl) hS0 ?_) | (refine wpHG_soft (by rfl) hS0 (by intro w' hSw; obtain ⟨q0, q1, q2, q3, q4, q5, q6⟩ := hSw; go_simp; rfl) ?_)
                          simp only [Act.put, List.setIfInBounds_toArray, List.set_cons_zero, List.set_cons_succ]
                          first | (refine wpHG_off (by rfl) hS0 ?_) | (refine wpHG_soft (by rfl) hS0 (by intro w' hSw; obtain ⟨q0, q1, q2, q3, q4, q5, q6⟩ := hSw; go_simp; rfl) ?_)
                          simp only [Act.put, List.setIfInBounds_toArray, List.set_cons_zero, List.set_cons_succ]
                          first | (refine wpHG_off (by rfl) hS0 ?_) | (refine wpHG_soft (by rfl) hS0 (by intro w' hSw; obtain ⟨q0, q1, q2, q3, q4, q5, q6⟩ := hSw; go_simp; rfl) ?_)
                          simp only [Act.put, List.setIfInBounds_toArray, List.set_cons_zero, List.set_cons_succ]
                          first | (refine wpHG_off (by rfl) hS0 ?_) | (refine wpHG_soft (by rfl) hS0 (by intro w' hSw; obtain ⟨q0, q1, q2, q3, q4, q5, q6⟩ := hSw; go_simp; rfl) ?_)
                          simp only [Act.put, List.setIfInBounds_toArray, List.set_cons_zero, List.set_cons_succ]
                          first | (refine wpHG_off (by rfl) hS0 ?_) | (refine wpHG_soft (by rfl) hS0 (by intro w' hSw; obtain ⟨q0, q1, q2, q3, q4, q5, q6⟩ := hSw; go_simp; rfl) ?_)
                          simp only [Act.put, List.setIfInBounds_toArray, List.set_cons_zero, List.set_cons_succ]
                          first | (refine wpHG_off (by rfl) hS0 ?_) | (refine wpHG_soft (by rfl) hS0 (by intro w' hSw; obtain ⟨q0, q1, q2, q3, q4, q5, q6⟩ := hSw; go_simp; rfl) ?_)
                          simp only [Act.put, List.setIfInBounds_toArray, List.set_cons_zero, List.set_cons_succ]
                          refine wpHG_soft (v := .bool false) (by rfl) hS0 (by intro w' hSw; obtain ⟨q0, q1, q2, q3, q4, q5, q6⟩ := hSw; go_simp) ?_
                          simp only [Act.put, List.setIfInBounds_toArray, List.set_cons_zero, List.set_cons_succ]
                          first | (refine wpHG_off (by rfl) hS0 ?_) | (refine wpHG_soft (by rfl) hS0 (by intro w' hSw; obtain ⟨q0, q1, q2, q3, q4, q5, q6⟩ := hSw; go_simp; rfl) ?_)
                          simp only [Act.put, List.setIfInBounds_toArray, List.set_cons_zero, List.set_cons_succ]
                          first | (refine wpHG_off (by rfl) hS0 ?_) | (refine wpHG_soft (by rfl) hS0 (by intro w' hSw; obtain ⟨q0, q1, q2, q3, q4, q5, q6⟩ := hSw; go_simp; rfl) ?_)
                          simp only [Act.put, List.setIfInBounds_toArray, List.set_cons_zero, List.set_cons_succ]
                          first | (refine wpHG_off (by rfl) hS0 ?_) | (refine wpHG_soft (by rfl) hS0 (by intro w' hSw; obtain ⟨q0, q1, q2, q3, q4, q5, q6⟩ := hSw; go_simp; rfl) ?_)
                          simp only [Act.put, List.setIfInBounds_toArray, List.set_cons_zero, List.set_cons_succ]
                          first | (refine wpHG_off (by rfl) hS0 ?_) | (refine wpHG_soft (by rfl) hS0 (by intro w' hSw; obtain ⟨q0, q1, q2, q3, q4, q5, q6⟩ := hSw; go_simp; rfl) ?_)
                          simp only [Act.put, List.setIfInBounds_toArray, List.set_cons_zero, List.set_cons_succ]
                          first | (refine wpHG_off (by rfl) hS0 ?_) | (refine wpHG_soft (by rfl) hS0 (by intro w' hSw; obtain ⟨q0, q1, q2, q3, q4, q5, q6⟩ := hSw; go_simp; rfl) ?_)
                          simp only [Act.put, List.setIfInBounds_toArray, List.set_cons_zero, List.set_cons_succ]
                          first | (refine wpHG_off (by rfl) hS0 ?_) | (refine wpHG_soft (by rfl) hS0 (by intro w' hSw; obtain ⟨q0, q1, q2, q3, q4, q5, q6⟩ := hSw; go_simp; rfl) ?_)
                          simp only [Act.put, List.setIfInBounds_toArray, List.set_cons_zero, List.set_cons_succ]
                          first | (refine wpHG_off (by rfl) hS0 ?_) | (refine wpHG_soft (by rfl) hS0 (by intro w' hSw; obtain ⟨q0, q1, q2, q3, q4, q5, q6⟩ := hSw; go_simp; rfl) ?_)
                          simp only [Act.put, List.setIfInBounds_toArray, List.set_cons_zero, List.set_cons_succ]
                          first | (refine wpHG_off (by rfl) hS0 ?_) | (refine wpHG_soft (by rfl) hS0 (by intro w' hSw; obtain ⟨q0, q1, q2, q3, q4, q5, q6⟩ := hSw; go_simp; rfl) ?_)
                          simp only [Act.put, List.setIfInBounds_toArray, List.set_cons_zero, List.set_cons_succ]
                          first | (refine wpHG_off (by rfl) hS0 ?_) | (refine wpHG_soft (by rfl) hS0 (by intro w' hSw; obtain ⟨q0, q1, q2, q3, q4, q5, q6⟩ := hSw; go_simp; rfl) ?_)
                          simp only [Act.put, List.setIfInBounds_toArray, List.set_cons_zero, List.set_cons_succ]
                          refine wpHG_soft (v := .bool true) (by rfl) hS0 (by intro w' hSw; obtain ⟨q0, q1, q2, q3, q4, q5, q6⟩ := hSw; go_simp) ?_
                          simp only [Act.put, List.setIfInBounds_toArray, List.set_cons_zero, List.set_cons_succ]
                          first | (refine wpHG_off (by rfl) hS0 ?_) | (refine wpHG_soft (by rfl) hS0 (by intro w' hSw; obtain ⟨q0, q1, q2, q3, q4, q5, q6⟩ := hSw; go_simp; rfl) ?_)
                          simp only [Act.put, List.setIfInBounds_toArray, List.set_cons_zero, List.set_cons_succ]
                          first | (refine wpHG_off (by rfl) hS0 ?_) | (refine wpHG_soft (by rfl) hS0 (by intro w' hSw; obtain ⟨q0, q1, q2, q3, q4, q5, q6⟩ := hSw; go_simp; rfl) ?_)
                          simp only [Act.put, List.setIfInBounds_toArray, List.set_cons_zero, List.set_cons_succ]
                          first | (refine wpHG_off (by rfl) hS0 ?_) | (refine wpHG_soft (by rfl) hS0 (by intro w' hSw; obtain ⟨q0, q1, q2, q3, q4, q5, q6⟩ := hSw; go_simp; rfl) ?_)
                          simp only [Act.put, List.setIfInBounds_toArray, List.set_cons_zero, List.set_cons_succ]
                          first | (refine wpHG_off (by rfl) hS0 ?_) | (refine wpHG_soft (by rfl) hS0 (by intro w' hSw; obtain ⟨q0, q1, q2, q3, q4, q5, q6⟩ := hSw; go_simp; rfl) ?_)
                          simp only [Act.put, List.setIfInBounds_toArray, List.set_cons_zero, List.set_cons_succ]
                          first | (refine wpHG_off (by rfl) hS0 ?_) | (refine wpHG_soft (by rfl) hS0 (by intro w' hSw; obtain ⟨q0, q1, q2, q3, q4, q5, q6⟩ := hSw; go_simp; rfl) ?_)
                          simp only [Act.put, List.setIfInBounds_toArray, List.set_cons_zero, List.set_cons_succ]
                          first | (refine wpHG_off (by rfl) hS0 ?_) | (refine wpHG_soft (by rfl) hS0 (by intro w' hSw; obtain ⟨q0, q1, q2, q3, q4, q5, q6⟩ := hSw; go_simp; rfl) ?_)
                          simp only [Act.put, List.setIfInBounds_toArray, List.set_cons_zero, List.set_cons_succ]
                          first | (refine wpHG_off (by rfl) hS0 ?_) | (refine wpHG_soft (by rfl) hS0 (by intro w' hSw; obtain ⟨q0, q1, q2, q3, q4, q5, q6⟩ := hSw; go_simp; rfl) ?_)
                          simp only [Act.put, List.setIfInBounds_toArray, List.set_cons_zero, List.set_cons_succ]
                          first | (refine wpHG_off (by rfl) hS0 ?_) | (refine wpHG_soft (by rfl) hS0 (by intro w' hSw; obtain ⟨q0, q1, q2, q3, q4, q5, q6⟩ := hSw; go_simp; rfl) ?_)
                          simp only [Act.put, List.setIfInBounds_toArray, List.set_cons_zero, List.set_cons_succ]
                          refine wpHG_soft (v := .bool false) (by rfl) hS0 (by intro w' hSw; obtain ⟨q0, q1, q2, q3, q4, q5, q6⟩ := hSw; go_simp) ?_
                          simp only [Act.put, List.setIfInBounds_toArray, List.set_cons_zero, List.set_cons_succ]
                          first | (refine wpHG_off (by rfl) hS0 ?_) | (refine wpHG_soft (by rfl) hS0 (by intro w' hSw; obtain ⟨q0, q1, q2, q3, q4, q5, q6⟩ := hSw; go_simp; rfl) ?_)
                          simp only [Act.put, List.setIfInBounds_toArray, List.set_cons_zero, List.set_cons_succ]
                          first | (refine wpHG_off (by rfl) hS0 ?_) | (refine wpHG_soft (by rfl) hS0 (by intro w' hSw; obtain ⟨q0, q1, q2, q3, q4, q5, q6⟩ := hSw; go_simp; rfl) ?_)
                          simp only [Act.put, List.setIfInBounds_toArray, List.set_cons_zero, List.set_cons_succ]
                          first | (refine wpHG_off (by rfl) hS0 ?_) | (refine wpHG_soft (by rfl) hS0 (by intro w' hSw; obtain ⟨q0, q1, q2, q3, q4, q5, q6⟩ := hSw; go_simp; rfl) ?_)
                          simp only [Act.put, List.setIfInBounds_toArray, List.set_cons_zero, List.set_cons_succ]
                          first | (refine wpHG_off (by rfl) hS0 ?_) | (refine wpHG_soft (by rfl) hS0 (by intro w' hSw; obtain ⟨q0, q1, q2, q3, q4, q5, q6⟩ := hSw; go_simp; rfl) ?_)
                          simp only [Act.put, List.setIfInBounds_toArray, List.set_cons_zero, List.set_cons_succ]
                          first | (refine wpHG_off (by rfl) hS0 ?_) | (refine wpHG_soft (by rfl) hS0 (by intro w' hSw; obtain ⟨q0, q1, q2, q3, q4, q5, q6⟩ := hSw; go_simp; rfl) ?_)
                          simp only [Act.put, List.setIfInBounds_toArray, List.set_cons_zero, List.set_cons_succ]
                          first | (refine wpHG_off (by rfl) hS0 ?_) | (refine wpHG_soft (by rfl) hS0 (by intro w' hSw; obtain ⟨q0, q1, q2, q3, q4, q5, q6⟩ := hSw; go_simp; rfl) ?_)
                          simp only [Act.put, List.setIfInBounds_toArray, List.set_cons_zero, List.set_cons_succ]
                          first | (refine wpHG_off (by rfl) hS0 ?_) | (refine wpHG_soft (by rfl) hS0 (by intro w' hSw; obtain ⟨q0, q1, q2, q3, q4, q5, q6⟩ := hSw; go_simp; rfl) ?_)
                          simp only [Act.put, List.setIfInBounds_toArray, List.set_cons_zero, List.set_cons_succ]
                          first | (refine wpHG_off (by rfl) hS0 ?_) | (refine wpHG_soft (by rfl) hS0 (by intro w' hSw; obtain ⟨q0, q1, q2, q3, q4, q5, q6⟩ := hSw; go_simp; rfl) ?_)
                          simp only [Act.put, List.setIfInBounds_toArray, List.set_cons_zero, List.set_cons_succ]
                          refine wpHG_soft (v := .bool true) (by rfl) hS0 (by intro w' hSw; obtain ⟨q0, q1, q2, q3, q4, q5, q6⟩ := hSw; go_simp) ?_
                          simp only [Act.put, List.setIfInBounds_toArray, List.set_cons_zero, List.set_cons_succ]
                          first | (refine wpHG_off (by rfl) hS0 ?_) | (refine wpHG_soft (by rfl) hS0 (by intro w' hSw; obtain ⟨q0, q1, q2, q3, q4, q5, q6⟩ := hSw; go_simp; rfl) ?_)
                          simp only [Act.put, List.setIfInBounds_toArray, List.set_cons_zero, List.set_cons_succ]
                          first | (refine wpHG_off (by rfl) hS0 ?_) | (refine wpHG_soft (by rfl) hS0 (by intro w' hSw; obtain ⟨q0, q1, q2, q3, q4, q5, q6⟩ := hSw; go_simp; rfl) ?_)
                          simp only [Act.put, List.setIfInBounds_toArray, List.set_cons_zero, List.set_cons_succ]
                          first | (refine wpHG_off (by rfl) hS0 ?_) | (refine wpHG_soft (by rfl) hS0 (by intro w' hSw; obtain ⟨q0, q1, q2, q3, q4, q5, q6⟩ := hSw; go_simp; rfl) ?_)
                          simp only [Act.put, List.setIfInBounds_toArray, List.set_cons_zero, List.set_cons_succ]
                          first | (refine wpHG_off (by rfl) hS0 ?_) | (refine wpHG_soft (by rfl) hS0 (by intro w' hSw; obtain ⟨q0, q1, q2, q3, q4, q5, q6⟩ := hSw; go_simp; rfl) ?_)
                          simp only [Act.put, List.setIfInBounds_toArray, List.set_cons_zero, List.set_cons_succ]
                          first | (refine wpHG_off (by rfl) hS0 ?_) | (refine wpHG_soft (by rfl) hS0 (by intro w' hSw; obtain ⟨q0, q1, q2, q3, q4, q5, q6⟩ := hSw; go_simp; rfl) ?_)
                          simp only [Act.put, List.setIfInBounds_toArray, List.set_cons_zero, List.set_cons_succ]
                          first | (refine wpHG_off (by rfl) hS0 ?_) | (refine wpHG_soft (by rfl) hS0 (by intro w' hSw; obtain ⟨q0, q1, q2, q3, q4, q5, q6⟩ := hSw; go_simp; rfl) ?_)
                          simp only [Act.put, List.setIfInBounds_toArray, List.set_cons_zero, List.set_cons_succ]
                          first | (refine wpHG_off (by rfl) hS0 ?_) | (refine wpHG_soft (by rfl) hS0 (by intro w' hSw; obtain ⟨q0, q1, q2, q3, q4, q5, q6⟩ := hSw; go_simp; rfl) ?_)
                          simp only [Act.put, List.setIfInBounds_toArray, List.set_cons_zero, List.set_cons_succ]
                          first | (refine wpHG_off (by rfl) hS0 ?_) | (refine wpHG_soft (by rfl) hS0 (by intro w' hSw; obtain ⟨q0, q1, q2, q3, q4, q5, q6⟩ := hSw; go_simp; rfl) ?_)
                          simp only [Act.put, List.setIfInBounds_toArray, List.set_cons_zero, List.set_cons_succ]
                          refine wpHG_soft (v := .bool true) (by rfl) hS0 (by intro w' hSw; obtain ⟨q0, q1, q2, q3, q4, q5, q6⟩ := hSw; go_simp) ?_
                          simp only [Act.put, List.setIfInBounds_toArray, List.set_cons_zero, List.set_cons_succ]
                          first | (refine wpHG_off (by rfl) hS0 ?_) | (refine wpHG_soft (by rfl) hS0 (by intro w' hSw; obtain ⟨q0, q1, q2, q3, q4, q5, q6⟩ := hSw; go_simp; rfl) ?_)
                          simp only [Act.put, List.setIfInBounds_toArray, List.set_cons_zero, List.set_cons_succ]
                          first | (refine wpHG_off (by rfl) hS0 ?_) | (refine wpHG_soft (by rfl) hS0 (by intro w' hSw; obtain ⟨q0, q1, q2, q3, q4, q5, q6⟩ := hSw; go_simp; rfl) ?_)
                          simp only [Act.put, List.setIfInBounds_toArray, List.set_cons_zero, List.set_cons_succ]
                          first | (refine wpHG_off (by rfl) hS0 ?_) | (refine wpHG_soft (by rfl) hS0 (by intro w' hSw; obtain ⟨q0, q1, q2, q3, q4, q5, q6⟩ := hSw; go_simp; rfl) ?_)
                          simp only [Act.put, List.setIfInBounds_toArray, List.set_cons_zero, List.set_cons_succ]
                          first | (refine wpHG_off (by rfl) hS0 ?_) | (refine wpHG_soft (by rfl) hS0 (by intro w' hSw; obtain ⟨q0, q1, q2, q3, q4, q5, q6⟩ := hSw; go_simp; rfl) ?_)
                          simp only [Act.put, List.setIfInBounds_toArray, List.set_cons_zero, List.set_cons_succ]
                          first | (refine wpHG_off (by rfl) hS0 ?_) | (refine wpHG_soft (by rfl) hS0 (by intro w' hSw; obtain ⟨q0, q1, q2, q3, q4, q5, q6⟩ := hSw; go_simp; rfl) ?_)
                          simp only [Act.put, List.setIfInBounds_toArray, List.set_cons_zero, List.set_cons_succ]
                          refine wpHG_nil ?_
                          clear hS0
                          go_wp2_with fail
                          go_roundg (gk - 1)
                          case measure => have := HK.out; omega
                          case rel => exact ⟨k + 1, _, by have := HK.out; omega, by go_num, rfl, Lib.hid (found_ahead HFD.out E1.out HY.out HU.out (by unfold ahD; have := H12.out.1; have := H12.out.2; have := H34.out.1; have := H34.out.2; omega)), HB6.out.drew⟩
                      · have h5b := Lib.hid h5
                        as_aux_lemma =>
                          go_wp2_with (rw [hW6])
                          refine wp_region_HG (fun W' => W'.cell? ⟨gu, k, none⟩ = some (.bool false) ∧ W'.cell? ⟨wr.heap.size, 0, none⟩ = some (.int .i64 x.dg.code) ∧ W'.cell? ⟨wr.heap.size, 1, none⟩ = some (.int .i64 x.dg.at_) ∧ W'.cell? ⟨wr.heap.size, 2, none⟩ = some (.int .i64 x.dg.fin) ∧ W'.cell? ⟨b1, o1 + m * 5, none⟩ = some (.int .i64 y.dg.code) ∧ W'.cell? ⟨b1, o1 + m * 5 + 1, none⟩ = some (.int .i64 y.dg.at_) ∧ W'.cell? ⟨b1, o1 + m * 5 + 2, none⟩ = some (.int .i64 y.dg.fin)) [] [true, true, true, true, true, true, true, true, true, true, true, true, true, true, true, true, true, true, true, true, true, true, true, true, true, true, true, true, true, true, true, true, true, true, true, true, true, true, true, true, true, true, true, true, true, true, true, true, true, true, true, true, true, true, true, true, true, true, true] (by kernel_rfl) (by kernel_rfl) rfl (by kernel_rfl) ?_
                          have hS0 := HSS.out
                          first | (refine wpHG_off (by rfl) hS0 ?_) | (refine wpHG_soft (by rfl) hS0 (by intro w' hSw; obtain ⟨q0, q1, q2, q3, q4, q5, q6⟩ := hSw; go_simp; rfl) ?_)
                          simp only [Act.put, List.setIfInBounds_toArray, List.set_cons_zero, List.set_cons_succ]
                          first | (refine wpHG_off (by rfl) hS0 ?_) | (refine wpHG_soft (by rfl) hS0 (by intro w' hSw; obtain ⟨q0, q1, q2, q3, q4, q5, q6⟩ := hSw; go_simp; rfl) ?_)
                          simp only [Act.put, List.setIfInBounds_toArray, List.set_cons_zero, List.set_cons_succ]
                          first | (refine wpHG_off (by rfl) hS0 ?_) | (refine wpHG_soft (by rfl) hS0 (by intro w' hSw; obtain ⟨q0, q1, q2, q3, q4, q5, q6⟩ := hSw; go_simp; rfl) ?_)
                          simp only [Act.put, List.setIfInBounds_toArray, List.set_cons_zero, List.set_cons_succ]
                          first | (refine wpHG_off (by rfl) hS0 ?_) | (refine wpHG_soft (by rfl) hS0 (by intro w' hSw; obtain ⟨q0, q1, q2, q3, q4, q5, q6⟩ := hSw; go_simp; rfl) ?_)
                          simp only [Act.put, List.setIfInBounds_toArray, List.set_cons_zero, List.set_cons_succ]
                          refine wpHG_soft (v := .bool true) (by rfl) hS0 (by intro w' hSw; obtain ⟨q0, q1, q2, q3, q4, q5, q6⟩ := hSw; go_simp) ?_
                          simp only [Act.put, List.setIfInBounds_toArray, List.set_cons_zero, List.set_cons_succ]
                          first | (refine wpHG_off (by rfl) hS0 ?_) | (refine wpHG_soft (by rfl) hS0 (by intro w' hSw; obtain ⟨q0, q1, q2, q3, q4, q5, q6⟩ := hSw; go_simp; rfl) ?_)
                          simp only [Act.put, List.setIfInBounds_toArray, List.set_cons_zero, List.set_cons_succ]
                          first | (refine wpHG_off (by rfl) hS0 ?_) | (refine wpHG_soft (by rfl) hS0 (by intro w' hSw; obtain ⟨q0, q1, q2, q3, q4, q5, q6⟩ := hSw; go_simp; rfl) ?_)
                          simp only [Act.put, List.setIfInBounds_toArray, List.set_cons_zero, List.set_cons_succ]
                          refine wpHG_soft (v := .bool false) (by rfl) hS0 (by intro w' hSw; obtain ⟨q0, q1, q2, q3, q4, q5, q6⟩ := hSw; go_simp) ?_
                          simp only [Act.put, List.setIfInBounds_toArray, List.set_cons_zero, List.set_cons_succ]
                          first | (refine wpHG_off (by rfl) hS0 ?_) | (refine wpHG_soft (by rfl) hS0 (by intro w' hSw; obtain ⟨q0, q1, q2, q3, q4, q5, q6⟩ := hSw; go_simp; rfl) ?_)
                          simp only [Act.put, List.setIfInBounds_toArray, List.set_cons_zero, List.set_cons_succ]
                          first | (refine wpHG_off (by rfl) hS0 ?_) | (refine wpHG_soft (by rfl) hS0 (by intro w' hSw; obtain ⟨q0, q1, q2, q3, q4, q5, q6⟩ := hSw; go_simp; rfl) ?_)
                          simp only [Act.put, List.setIfInBounds_toArray, List.set_cons_zero, List.set_cons_succ]
                          first | (refine wpHG_off (by rfl) hS0 ?_) | (refine wpHG_soft (by rfl) hS0 (by intro w' hSw; obtain ⟨q0, q1, q2, q3, q4, q5, q6⟩ := hSw; go_simp; rfl) ?_)
                          simp only [Act.put, List.setIfInBounds_toArray, List.set_cons_zero, List.set_cons_succ]
                          first | (refine wpHG_off (by rfl) hS0 ?_) | (refine wpHG_soft (by rfl) hS0 (by intro w' hSw; obtain ⟨q0, q1, q2, q3, q4, q5, q6⟩ := hSw; go_simp; rfl) ?_)
                          simp only [Act.put, List.setIfInBounds_toArray, List.set_cons_zero, List.set_cons_succ]
                          first | (refine wpHG_off (by rfl) hS0 ?_) | (refine wpHG_soft (by rfl) hS0 (by intro w' hSw; obtain ⟨q0, q1, q2, q3, q4, q5, q6⟩ := hSw; go_simp; rfl) ?_)
                          simp only [Act.put, List.setIfInBounds_toArray, List.set_cons_zero, List.set_cons_succ]
                          first | (refine wpHG_off (by rfl) hS0 ?_) | (refine wpHG_soft (by rfl) hS0 (by intro w' hSw; obtain ⟨q0, q1, q2, q3, q4, q5, q6⟩ := hSw; go_simp; rfl) ?_)
                          simp only [Act.put, List.setIfInBounds_toArray, List.set_cons_zero, List.set_cons_succ]
                          first | (refine wpHG_off (by rfl) hS0 ?_) | (refine wpHG_soft (by rfl) hS0 (by intro w' hSw; obtain ⟨q0, q1, q2, q3, q4, q5, q6⟩ := hSw; go_simp; rfl) ?_)
                          simp only [Act.put, List.setIfInBounds_toArray, List.set_cons_zero, List.set_cons_succ]
                          first | (refine wpHG_off (by rfl) hS0 ?_) | (refine wpHG_soft (by rfl) hS0 (by intro w' hSw; obtain ⟨q0, q1, q2, q3, q4, q5, q6⟩ := hSw; go_simp; rfl) ?_)
                          simp only [Act.put, List.setIfInBounds_toArray, List.set_cons_zero, List.set_cons_succ]
                          refine wpHG_soft (v := .bool false) (by rfl) hS0 (by intro w' hSw; obtain ⟨q0, q1, q2, q3, q4, q5, q6⟩ := hSw; go_simp) ?_
                          simp only [Act.put, List.setIfInBounds_toArray, List.set_cons_zero, List.set_cons_succ]
                          first | (refine wpHG_off (by rfl) hS0 ?_) | (refine wpHG_soft (by rfl) hS0 (by intro w' hSw; obtain ⟨q0, q1, q2, q3, q4, q5, q6⟩ := hSw; go_simp; rfl) ?_)
                          simp only [Act.put, List.setIfInBounds_toArray, List.set_cons_zero, List.set_cons_succ]
                          first | (refine wpHG_off (by rfl) hS0 ?_) | (refine wpHG_soft (by rfl) hS0 (by intro w' hSw; obtain ⟨q0, q1, q2, q3, q4, q5, q6⟩ := hSw; go_simp; rfl) ?_)
                          simp only [Act.put, List.setIfInBounds_toArray, List.set_cons_zero, List.set_cons_succ]
                          first | (refine wpHG_off (by rfl) hS0 ?_) | (refine wpHG_soft (by rfl) hS0 (by intro w' hSw; obtain ⟨q0, q1, q2, q3, q4, q5, q6⟩ := hSw; go_simp; rfl) ?_)
                          simp only [Act.put, List.setIfInBounds_toArray, List.set_cons_zero, List.set_cons_succ]
                          first | (refine wpHG_off (by rfl) hS0 ?_) | (refine wpHG_soft (by rfl) hS0 (by intro w' hSw; obtain ⟨q0, q1, q2, q3, q4, q5, q6⟩ := hSw; go_simp; rfl) ?_)
                          simp only [Act.put, List.setIfInBounds_toArray, List.set_cons_zero, List.set_cons_succ]
                          first | (refine wpHG_off (by rfl) hS0 ?_) | (refine wpHG_soft (by rfl) hS0 (by intro w' hSw; obtain ⟨q0, q1, q2, q3, q4, q5, q6⟩ := hSw; go_simp; rfl) ?_)
                          simp only [Act.put, List.setIfInBounds_toArray, List.set_cons_zero, List.set_cons_succ]
                          first | (refine wpHG_off (by rfl) hS0 ?_) | (refine wpHG_soft (by rfl) hS0 (by intro w' hSw; obtain ⟨q0, q1, q2, q3, q4, q5, q6⟩ := hSw; go_simp; rfl) ?_)
                          simp only [Act.put, List.setIfInBounds_toArray, List.set_cons_zero, List.set_cons_succ]
                          first | (refine wpHG_off (by rfl) hS0 ?_) | (refine wpHG_soft (by rfl) hS0 (by intro w' hSw; obtain ⟨q0, q1, q2, q3, q4, q5, q6⟩ := hSw; go_simp; rfl) ?_)
                          simp only [Act.put, List.setIfInBounds_toArray, List.set_cons_zero, List.set_cons_succ]
                          first | (refine wpHG_off (by rfl) hS0 ?_) | (refine wpHG_soft (by rfl) hS0 (by intro w' hSw; obtain ⟨q0, q1, q2, q3, q4, q5, q6⟩ := hSw; go_simp; rfl) ?_)
                          simp only [Act.put, List.setIfInBounds_toArray, List.set_cons_zero, List.set_cons_succ]
                          first | (refine wpHG_off (by rfl) hS0 ?_) | (refine wpHG_soft (by rfl) hS0 (by intro w' hSw; obtain ⟨q0, q1, q2, q3, q4, q5, q6⟩ := hSw; go_simp; rfl) ?_)
                          simp only [Act.put, List.setIfInBounds_toArray, List.set_cons_zero, List.set_cons_succ]
                          refine wpHG_soft (v := .bool true) (by rfl) hS0 (by intro w' hSw; obtain ⟨q0, q1, q2, q3, q4, q5, q6⟩ := hSw; go_simp) ?_
                          simp only [Act.put, List.setIfInBounds_toArray, List.set_cons_zero, List.set_cons_succ]
                          first | (refine wpHG_off (by rfl) hS0 ?_) | (refine wpHG_soft (by rfl) hS0 (by intro w' hSw; obtain ⟨q0, q1, q2, q3, q4, q5, q6⟩ := hSw; go_simp; rfl) ?_)
                          simp only [Act.put, List.setIfInBounds_toArray, List.set_cons_zero, List.set_cons_succ]
                          first | (refine wpHG_off (by rfl) hS0 ?_) | (refine wpHG_soft (by rfl) hS0 (by intro w' hSw; obtain ⟨q0, q1, q2, q3, q4, q5, q6⟩ := hSw; go_simp; rfl) ?_)
                          simp only [Act.put, List.setIfInBounds_toArray, List.set_cons_zero, List.set_cons_succ]
                          first | (refine wpHG_off (by rfl) hS0 ?_) | (refine wpHG_soft (by rfl) hS0 (by intro w' hSw; obtain ⟨q0, q1, q2, q3, q4, q5, q6⟩ := hSw; go_simp; rfl) ?_)
                          simp only [Act.put, List.setIfInBounds_toArray, List.set_cons_zero, List.set_cons_succ]
                          first | (refine wpHG_off (by rfl) hS0 ?_) | (refine wpHG_soft (by rfl) hS0 (by intro w' hSw; obtain ⟨q0, q1, q2, q3, q4, q5, q6⟩ := hSw; go_simp; rfl) ?_)
                          simp only [Act.put, List.setIfInBounds_toArray, List.set_cons_zero, List.set_cons_succ]
                          first | (refine wpHG_off (by rfl) hS0 ?_) | (refine wpHG_soft (by rfl) hS0 (by intro w' hSw; obtain ⟨q0, q1, q2, q3, q4, q5, q6⟩ := hSw; go_simp; rfl) ?_)
                          simp only [Act.put, List.setIfInBounds_toArray, List.set_cons_zero, List.set_cons_succ]
                          first | (refine wpHG_off (by rfl) hS0 ?_) | (refine wpHG_soft (by rfl) hS0 (by intro w' hSw; obtain ⟨q0, q1, q2, q3, q4, q5, q6⟩ := hSw; go_simp; rfl) ?_)
                          simp only [Act.put, List.setIfInBounds_toArray, List.set_cons_zero, List.set_cons_succ]
                          first | (refine wpHG_off (by rfl) hS0 ?_) | (refine wpHG_soft (by rfl) hS0 (by intro w' hSw; obtain ⟨q0, q1, q2, q3, q4, q5, q6⟩ := hSw; go_simp; rfl) ?_)
                          simp only [Act.put, List.setIfInBounds_toArray, List.set_cons_zero, List.set_cons_succ]
                          first | (refine wpHG_off (by rfl) hS0 ?_) | (refine wpHG_soft (by rfl) hS0 (by intro w' hSw; obtain ⟨q0, q1, q2, q3, q4, q5, q6⟩ := hSw; go_simp; rfl) ?_)
                          simp only [Act.put, List.setIfInBounds_toArray, List.set_cons_zero, List.set_cons_succ]
                          refine wpHG_soft (v := .bool false) (by rfl) hS0 (by intro w' hSw; obtain ⟨q0, q1, q2, q3, q4, q5, q6⟩ := hSw; go_simp) ?_
                          simp only [Act.put, List.setIfInBounds_toArray, List.set_cons_zero, List.set_cons_succ]
                          first | (refine wpHG_off (by rfl) hS0 ?_) | (refine wpHG_soft (by rfl) hS0 (by intro w' hSw; obtain ⟨q0, q1, q2, q3, q4, q5, q6⟩ := hSw; go_simp; rfl) ?_)
                          simp only [Act.put, List.setIfInBounds_toArray, List.set_cons_zero, List.set_cons_succ]
                          first | (refine wpHG_off (by rfl) hS0 ?_) | (refine wpHG_soft (by rfl) hS0 (by intro w' hSw; obtain ⟨q0, q1, q2, q3, q4, q5, q6⟩ := hSw; go_simp; rfl) ?_)
                          simp only [Act.put, List.setIfInBounds_toArray, List.set_cons_zero, List.set_cons_succ]
                          first | (refine wpHG_off (by rfl) hS0 ?_) | (refine wpHG_soft (by rfl) hS0 (by intro w' hSw; obtain ⟨q0, q1, q2, q3, q4, q5, q6⟩ := hSw; go_simp; rfl) ?_)
                          simp only [Act.put, List.setIfInBounds_toArray, List.set_cons_zero, List.set_cons_succ]
                          first | (refine wpHG_off (by rfl) hS0 ?_) | (refine wpHG_soft (by rfl) hS0 (by intro w' hSw; obtain ⟨q0, q1, q2, q3, q4, q5, q6⟩ := hSw; go_simp; rfl) ?_)
                          simp only [Act.put, List.setIfInBounds_toArray, List.set_cons_zero, List.set_cons_succ]
                          first | (refine wpHG_off (by rfl) hS0 ?_) | (refine wpHG_soft (by rfl) hS0 (by intro w' hSw; obtain ⟨q0, q1, q2, q3, q4, q5, q6⟩ := hSw; go_simp; rfl) ?_)
                          simp only [Act.put, List.setIfInBounds_toArray, List.set_cons_zero, List.set_cons_succ]
                          first | (refine wpHG_off (by rfl) hS0 ?_) | (refine wpHG_soft (by rfl) hS0 (by intro w' hSw; obtain ⟨q0, q1, q2, q3, q4, q5, q6⟩ := hSw; go_simp; rfl) ?_)
                          simp only [Act.put, List.setIfInBounds_toArray, List.set_cons_zero, List.set_cons_succ]
                          first | (refine wpHG_off (by rfl) hS0 ?_) | (refine wpHG_soft (by rfl) hS0 (by intro w' hSw; obtain ⟨q0, q1, q2, q3, q4, q5, q6⟩ := hSw; go_simp; rfl) ?_)
                          simp only [Act.put, List.setIfInBounds_toArray, List.set_cons_zero, List.set_cons_succ]
                          first | (refine wpHG_off (by rfl) hS0 ?_) | (refine wpHG_soft (by rfl) hS0 (by intro w' hSw; obtain ⟨q0, q1, q2, q3, q4, q5, q6⟩ := hSw; go_simp; rfl) ?_)
                          simp only [Act.put, List.setIfInBounds_toArray, List.set_cons_zero, List.set_cons_succ]
                          refine wpHG_soft (v := .bool true) (by rfl) hS0 (by intro w' hSw; obtain ⟨q0, q1, q2, q3, q4, q5, q6⟩ := hSw; go_simp) ?_
                          simp only [Act.put, List.setIfInBounds_toArray, List.set_cons_zero, List.set_cons_succ]
                          first | (refine wpHG_off (by rfl) hS0 ?_) | (refine wpHG_soft (by rfl) hS0 (by intro w' hSw; obtain ⟨q0, q1, q2, q3, q4, q5, q6⟩ := hSw; go_simp; rfl) ?_)
                          simp only [Act.put, List.setIfInBounds_toArray, List.set_cons_zero, List.set_cons_succ]
                          first | (refine wpHG_off (by rfl) hS0 ?_) | (refine wpHG_soft (by rfl) hS0 (by intro w' hSw; obtain ⟨q0, q1, q2, q3, q4, q5, q6⟩ := hSw; go_simp; rfl) ?_)
                          simp only [Act.put, List.setIfInBounds_toArray, List.set_cons_zero, List.set_cons_succ]
                          first | (refine wpHG_off (by rfl) hS0 ?_) | (refine wpHG_soft (by rfl) hS0 (by intro w' hSw; obtain ⟨q0, q1, q2, q3, q4, q5, q6⟩ := hSw; go_simp; rfl) ?_)
                          simp only [Act.put, List.setIfInBounds_toArray, List.set_cons_zero, List.set_cons_succ]
                          first | (refine wpHG_off (by rfl) hS0 ?_) | (refine wpHG_soft (by rfl) hS0 (by intro w' hSw; obtain ⟨q0, q1, q2, q3, q4, q5, q6⟩ := hSw; go_simp; rfl) ?_)
                          simp only [Act.put, List.setIfInBounds_toArray, List.set_cons_zero, List.set_cons_succ]
                          first | (refine wpHG_off (by rfl) hS0 ?_) | (refine wpHG_soft (by rfl) hS0 (by intro w' hSw; obtain ⟨q0, q1, q2, q3, q4, q5, q6⟩ := hSw; go_simp; rfl) ?_)
                          simp only [Act.put, List.setIfInBounds_toArray, List.set_cons_zero, List.set_cons_succ]
                          first | (refine wpHG_off (by rfl) hS0 ?_) | (refine wpHG_soft (by rfl) hS0 (by intro w' hSw; obtain ⟨q0, q1, q2, q3, q4, q5, q6⟩ := hSw; go_simp; rfl) ?_)
                          simp only [Act.put, List.setIfInBounds_toArray, List.set_cons_zero, List.set_cons_succ]
                          first | (refine wpHG_off (by rfl) hS0 ?_) | (refine wpHG_soft (by rfl) hS0 (by intro w' hSw; obtain ⟨q0, q1, q2, q3, q4, q5, q6⟩ := hSw; go_simp; rfl) ?_)
                          simp only [Act.put, List.setIfInBounds_toArray, List.set_cons_zero, List.set_cons_succ]
                          first | (refine wpHG_off (by rfl) hS0 ?_) | (refine wpHG_soft (by rfl) hS0 (by intro w' hSw; obtain ⟨q0, q1, q2, q3, q4, q5, q6⟩ := hSw; go_simp; rfl) ?_)
                          simp only [Act.put, List.setIfInBounds_toArray, List.set_cons_zero, List.set_cons_succ]
                          refine wpHG_soft (v := .bool false) (by rfl) hS0 (by intro w' hSw; obtain ⟨q0, q1, q2, q3, q4, q5, q6⟩ := hSw; go_simp) ?_
                          simp only [Act.put, List.setIfInBounds_toArray, List.set_cons_zero, List.set_cons_succ]
                          first | (refine wpHG_off (by rfl) hS0 ?_) | (refine wpHG_soft (by rfl) hS0 (by intro w' hSw; obtain ⟨q0, q1, q2, q3, q4, q5, q6⟩ := hSw; go_simp; rfl) ?_)
                          simp only [Act.put, List.setIfInBounds_toArray, List.set_cons_zero, List.set_cons_succ]
                          first | (refine wpHG_off (by rfl) hS0 ?_) | (refine wpHG_soft (by rfl) hS0 (by intro w' hSw; obtain ⟨q0, q1, q2, q3, q4, q5, q6⟩ := hSw; go_simp; rfl) ?_)
                          simp only [Act.put, List.setIfInBounds_toArray, List.set_cons_zero, List.set_cons_succ]
                          first | (refine wpHG_off (by rfl) hS0 ?_) | (refine wpHG_soft (by rfl) hS0 (by intro w' hSw; obtain ⟨q0, q1, q2, q3, q4, q5, q6⟩ := hSw; go_simp; rfl) ?_)
                          simp only [Act.put, List.setIfInBounds_toArray, List.set_cons_zero, List.set_cons_succ]
                          first | (refine wpHG_off (by rfl) hS0 ?_) | (refine wpHG_soft (by rfl) hS0 (by intro w' hSw; obtain ⟨q0, q1, q2, q3, q4, q5, q6⟩ := hSw; go_simp; rfl) ?_)
                          simp only [Act.put, List.setIfInBounds_toArray, List.set_cons_zero, List.set_cons_succ]
                          first | (refine wpHG_off (by rfl) hS0 ?_) | (refine wpHG_soft (by rfl) hS0 (by intro w' hSw; obtain ⟨q0, q1, q2, q3, q4, q5, q6⟩ := hSw; go_simp; rfl) ?_)
                          simp only [Act.put, List.setIfInBounds_toArray, List.set_cons_zero, List.set_cons_succ]
                          refine wpHG_nil ?_
                          clear hS0
                          go_wp2_with fail
                          go_roundg (gk - 1)
                          case measure => have := HK.out; omega
                          case rel => exact ⟨k + 1, _, by have := HK.out; omega, by go_num, rfl, Lib.hid (found_behind HT.out HFD.out E1.out HY.out (by unfold ahD; have := H12.out.1; have := H12.out.2; have := H34.out.1; have := H34.out.2; omega)), HB6.out.drew⟩
                    · have h4b : (x.dg.fin == y.dg.fin) = false := by simp [h4]
                      as_aux_lemma =>
                        go_wp2_with (rw [hW6])
                        refine wp_region_HG (fun W' => W'.cell? ⟨gu, k, none⟩ = some (.bool false) ∧ W'.cell? ⟨wr.heap.size, 0, none⟩ = some (.int .i64 x.dg.code) ∧ W'.cell? ⟨wr.heap.size, 1, none⟩ = some (.int .i64 x.dg.at_) ∧ W'.cell? ⟨wr.heap.size, 2, none⟩ = some (.int .i64 x.dg.fin) ∧ W'.cell? ⟨b1, o1 + m * 5, none⟩ = some (.int .i64 y.dg.code) ∧ W'.cell? ⟨b1, o1 + m * 5 + 1, none⟩ = some (.int .i64 y.dg.at_) ∧ W'.cell? ⟨b1, o1 + m * 5 + 2, none⟩ = some (.int .i64 y.dg.fin)) [] [true, true, true, true, true, true, true, true, true, true, true, true, true, true, true, true, true, true, true, true, true, true, true, true, true, true, true, true, true, true, true, true, true, true, true, true, true, true, true, true, true, true, true, true, true, true, true, true, true, true, true, true, true, true, true, true, true, true, true] (by kernel_rfl) (by kernel_rfl) rfl (by kernel_rfl) ?_
                        have hS0 := HSS.out
                        first | (refine wpHG_off (by rfl) hS0 ?_) | (refine wpHG_soft (by rfl) hS0 (by intro w' hSw; obtain ⟨q0, q1, q2, q3, q4, q5, q6⟩ := hSw; go_simp; rfl) ?_)
                        simp only [Act.put, List.setIfInBounds_toArray, List.set_cons_zero, List.set_cons_succ]
                        first | (refine wpHG_off (by rfl) hS0 ?_) | (refine wpHG_soft (by rfl) hS0 (by intro w' hSw; obtain ⟨q0, q1, q2, q3, q4, q5, q6⟩ := hSw; go_simp; rfl) ?_)
                        simp only [Act.put, List.setIfInBounds_toArray, List.set_cons_zero, List.set_cons_succ]
                        first | (refine wpHG_off (by rfl) hS0 ?_) | (refine wpHG_soft (by rfl) hS0 (by intro w' hSw; obtain ⟨q0, q1, q2, q3, q4, q5, q6⟩ := hSw; go_simp; rfl) ?_)
                        simp only [Act.put, List.setIfInBounds_toArray, List.set_cons_zero, List.set_cons_succ]
                        first | (refine wpHG_off (by rfl) hS0 ?_) | (refine wpHG_soft (by rfl) hS0 (by intro w' hSw; obtain ⟨q0, q1, q2, q3, q4, q5, q6⟩ := hSw; go_simp; rfl) ?_)
                        simp only [Act.put, List.setIfInBounds_toArray, List.set_cons_zero, List.set_cons_succ]
                        refine wpHG_soft (v := .bool true) (by rfl) hS0 (by intro w' hSw; obtain ⟨q0, q1, q2, q3, q4, q5, q6⟩ := hSw; go_simp) ?_
                        simp only [Act.put, List.setIfInBounds_toArray, List.set_cons_zero, List.set_cons_succ]
                        first | (refine wpHG_off (by rfl) hS0 ?_) | (refine wpHG_soft (by rfl) hS0 (by intro w' hSw; obtain ⟨q0, q1, q2, q3, q4, q5, q6⟩ := hSw; go_simp; rfl) ?_)
                        simp only [Act.put, List.setIfInBounds_toArray, List.set_cons_zero, List.set_cons_succ]
                        first | (refine wpHG_off (by rfl) hS0 ?_) | (refine wpHG_soft (by rfl) hS0 (by intro w' hSw; obtain ⟨q0, q1, q2, q3, q4, q5, q6⟩ := hSw; go_simp; rfl) ?_)
                        simp only [Act.put, List.setIfInBounds_toArray, List.set_cons_zero, List.set_cons_succ]
                        refine wpHG_soft (v := .bool false) (by rfl) hS0 (by intro w' hSw; obtain ⟨q0, q1, q2, q3, q4, q5, q6⟩ := hSw; go_simp) ?_
                        simp only [Act.put, List.setIfInBounds_toArray, List.set_cons_zero, List.set_cons_succ]
                        first | (refine wpHG_off (by rfl) hS0 ?_) | (refine wpHG_soft (by rfl) hS0 (by intro w' hSw; obtain ⟨q0, q1, q2, q3, q4, q5, q6⟩ := hSw; go_simp; rfl) ?_)
                        simp only [Act.put, List.setIfInBounds_toArray, List.set_cons_zero, List.set_cons_succ]
                        first | (refine wpHG_off (by rfl) hS0 ?_) | (refine wpHG_soft (by rfl) hS0 (by intro w' hSw; obtain ⟨q0, q1, q2, q3, q4, q5, q6⟩ := hSw; go_simp; rfl) ?_)
                        simp only [Act.put, List.setIfInBounds_toArray, List.set_cons_zero, List.set_cons_succ]
                        first | (refine wpHG_off (by rfl) hS0 ?_) | (refine wpHG_soft (by rfl) hS0 (by intro w' hSw; obtain ⟨q0, q1, q2, q3, q4, q5, q6⟩ := hSw; go_simp; rfl) ?_)
                        simp only [Act.put, List.setIfInBounds_toArray, List.set_cons_zero, List.set_cons_succ]
                        first | (refine wpHG_off (by rfl) hS0 ?_) | (refine wpHG_soft (by rfl) hS0 (by intro w' hSw; obtain ⟨q0, q1, q2, q3, q4, q5, q6⟩ := hSw; go_simp; rfl) ?_)
                        simp only [Act.put, List.setIfInBounds_toArray, List.set_cons_zero, List.set_cons_succ]
                        first | (refine wpHG_off (by rfl) hS0 ?_) | (refine wpHG_soft (by rfl) hS0 (by intro w' hSw; obtain ⟨q0, q1, q2, q3, q4, q5, q6⟩ := hSw; go_simp; rfl) ?_)
                        simp only [Act.put, List.setIfInBounds_toArray, List.set_cons_zero, List.set_cons_succ]
                        first | (refine wpHG_off (by rfl) hS0 ?_) | (refine wpHG_soft (by rfl) hS0 (by intro w' hSw; obtain ⟨q0, q1, q2, q3, q4, q5, q6⟩ := hSw; go_simp; rfl) ?_)
                        simp only [Act.put, List.setIfInBounds_toArray, List.set_cons_zero, List.set_cons_succ]
                        first | (refine wpHG_off (by rfl) hS0 ?_) | (refine wpHG_soft (by rfl) hS0 (by intro w' hSw; obtain ⟨q0, q1, q2, q3, q4, q5, q6⟩ := hSw; go_simp; rfl) ?_)
                        simp only [Act.put, List.setIfInBounds_toArray, List.set_cons_zero, List.set_cons_succ]
                        first | (refine wpHG_off (by rfl) hS0 ?_) | (refine wpHG_soft (by rfl) hS0 (by intro w' hSw; obtain ⟨q0, q1, q2, q3, q4, q5, q6⟩ := hSw; go_simp; rfl) ?_)
                        simp only [Act.put, List.setIfInBounds_toArray, List.set_cons_zero, List.set_cons_succ]
                        refine wpHG_soft (v := .bool false) (by rfl) hS0 (by intro w' hSw; obtain ⟨q0, q1, q2, q3, q4, q5, q6⟩ := hSw; go_simp) ?_
                        simp only [Act.put, List.setIfInBounds_toArray, List.set_cons_zero, List.set_cons_succ]
                        first | (refine wpHG_off (by rfl) hS0 ?_) | (refine wpHG_soft (by rfl) hS0 (by intro w' hSw; obtain ⟨q0, q1, q2, q3, q4, q5, q6⟩ := hSw; go_simp; rfl) ?_)
                        simp only [Act.put, List.setIfInBounds_toArray, List.set_cons_zero, List.set_cons_succ]
                        first | (refine wpHG_off (by rfl) hS0 ?_) | (refine wpHG_soft (by rfl) hS0 (by intro w' hSw; obtain ⟨q0, q1, q2, q3, q4, q5, q6⟩ := hSw; go_simp; rfl) ?_)
                        simp only [Act.put, List.setIfInBounds_toArray, List.set_cons_zero, List.set_cons_succ]
                        first | (refine wpHG_off (by rfl) hS0 ?_) | (refine wpHG_soft (by rfl) hS0 (by intro w' hSw; obtain ⟨q0, q1, q2, q3, q4, q5, q6⟩ := hSw; go_simp; rfl) ?_)
                        simp only [Act.put, List.setIfInBounds_toArray, List.set_cons_zero, List.set_cons_succ]
                        first | (refine wpHG_off (by rfl) hS0 ?_) | (refine wpHG_soft (by rfl) hS0 (by intro w' hSw; obtain ⟨q0, q1, q2, q3, q4, q5, q6⟩ := hSw; go_simp; rfl) ?_)
                        simp only [Act.put, List.setIfInBounds_toArray, List.set_cons_zero, List.set_cons_succ]
                        first | (refine wpHG_off (by rfl) hS0 ?_) | (refine wpHG_soft (by rfl) hS0 (by intro w' hSw; obtain ⟨q0, q1, q2, q3, q4, q5, q6⟩ := hSw; go_simp; rfl) ?_)
                        simp only [Act.put, List.setIfInBounds_toArray, List.set_cons_zero, List.set_cons_succ]
                        first | (refine wpHG_off (by rfl) hS0 ?_) | (refine wpHG_soft (by rfl) hS0 (by intro w' hSw; obtain ⟨q0, q1, q2, q3, q4, q5, q6⟩ := hSw; go_simp; rfl) ?_)
                        simp only [Act.put, List.setIfInBounds_toArray, List.set_cons_zero, List.set_cons_succ]
                        first | (refine wpHG_off (by rfl) hS0 ?_) | (refine wpHG_soft (by rfl) hS0 (by intro w' hSw; obtain ⟨q0, q1, q2, q3, q4, q5, q6⟩ := hSw; go_simp; rfl) ?_)
                        simp only [Act.put, List.setIfInBounds_toArray, List.set_cons_zero, List.set_cons_succ]
                        first | (refine wpHG_off (by rfl) hS0 ?_) | (refine wpHG_soft (by rfl) hS0 (by intro w' hSw; obtain ⟨q0, q1, q2, q3, q4, q5, q6⟩ := hSw; go_simp; rfl) ?_)
                        simp only [Act.put, List.setIfInBounds_toArray, List.set_cons_zero, List.set_cons_succ]
                        first | (refine wpHG_off (by rfl) hS0 ?_) | (refine wpHG_soft (by rfl) hS0 (by intro w' hSw; obtain ⟨q0, q1, q2, q3, q4, q5, q6⟩ := hSw; go_simp; rfl) ?_)
                        simp only [Act.put, List.setIfInBounds_toArray, List.set_cons_zero, List.set_cons_succ]
                        refine wpHG_soft (v := .bool true) (by rfl) hS0 (by intro w' hSw; obtain ⟨q0, q1, q2, q3, q4, q5, q6⟩ := hSw; go_simp) ?_
                        simp only [Act.put, List.setIfInBounds_toArray, List.set_cons_zero, List.set_cons_succ]
                        first | (refine wpHG_off (by rfl) hS0 ?_) | (refine wpHG_soft (by rfl) hS0 (by intro w' hSw; obtain ⟨q0, q1, q2, q3, q4, q5, q6⟩ := hSw; go_simp; rfl) ?_)
                        simp only [Act.put, List.setIfInBounds_toArray, List.set_cons_zero, List.set_cons_succ]
                        first | (refine wpHG_off (by rfl) hS0 ?_) | (refine wpHG_soft (by rfl) hS0 (by intro w' hSw; obtain ⟨q0, q1, q2, q3, q4, q5, q6⟩ := hSw; go_simp; rfl) ?_)
                        simp only [Act.put, List.setIfInBounds_toArray, List.set_cons_zero, List.set_cons_succ]
                        first | (refine wpHG_off (by rfl) hS0 ?_) | (refine wpHG_soft (by rfl) hS0 (by intro w' hSw; obtain ⟨q0, q1, q2, q3, q4, q5, q6⟩ := hSw; go_simp; rfl) ?_)
                        simp only [Act.put, List.setIfInBounds_toArray, List.set_cons_zero, List.set_cons_succ]
                        first | (refine wpHG_off (by rfl) hS0 ?_) | (refine wpHG_soft (by rfl) hS0 (by intro w' hSw; obtain ⟨q0, q1, q2, q3, q4, q5, q6⟩ := hSw; go_simp; rfl) ?_)
                        simp only [Act.put, List.setIfInBounds_toArray, List.set_cons_zero, List.set_cons_succ]
                        first | (refine wpHG_off (by rfl) hS0 ?_) | (refine wpHG_soft (by rfl) hS0 (by intro w' hSw; obtain ⟨q0, q1, q2, q3, q4, q5, q6⟩ := hSw; go_simp; rfl) ?_)
                        simp only [Act.put, List.setIfInBounds_toArray, List.set_cons_zero, List.set_cons_succ]
                        first | (refine wpHG_off (by rfl) hS0 ?_) | (refine wpHG_soft (by rfl) hS0 (by intro w' hSw; obtain ⟨q0, q1, q2, q3, q4, q5, q6⟩ := hSw; go_simp; rfl) ?_)
                        simp only [Act.put, List.setIfInBounds_toArray, List.set_cons_zero, List.set_cons_succ]
                        first | (refine wpHG_off (by rfl) hS0 ?_) | (refine wpHG_soft (by rfl) hS0 (by intro w' hSw; obtain ⟨q0, q1, q2, q3, q4, q5, q6⟩ := hSw; go_simp; rfl) ?_)
                        simp only [Act.put, List.setIfInBounds_toArray, List.set_cons_zero, List.set_cons_succ]
                        first | (refine wpHG_off (by rfl) hS0 ?_) | (refine wpHG_soft (by rfl) hS0 (by intro w' hSw; obtain ⟨q0, q1, q2, q3, q4, q5, q6⟩ := hSw; go_simp; rfl) ?_)
                        simp only [Act.put, List.setIfInBounds_toArray, List.set_cons_zero, List.set_cons_succ]
                        refine wpHG_soft (v := .bool false) (by rfl) hS0 (by intro w' hSw; obtain ⟨q0, q1, q2, q3, q4, q5, q6⟩ := hSw; go_simp) ?_
                        simp only [Act.put, List.setIfInBounds_toArray, List.set_cons_zero, List.set_cons_succ]
                        first | (refine wpHG_off (by rfl) hS0 ?_) | (refine wpHG_soft (by rfl) hS0 (by intro w' hSw; obtain ⟨q0, q1, q2, q3, q4, q5, q6⟩ := hSw; go_simp; rfl) ?_)
                        simp only [Act.put, List.setIfInBounds_toArray, List.set_cons_zero, List.set_cons_succ]
                        first | (refine wpHG_off (by rfl) hS0 ?_) | (refine wpHG_soft (by rfl) hS0 (by intro w' hSw; obtain ⟨q0, q1, q2, q3, q4, q5, q6⟩ := hSw; go_simp; rfl) ?_)
                        simp only [Act.put, List.setIfInBounds_toArray, List.set_cons_zero, List.set_cons_succ]
                        first | (refine wpHG_off (by rfl) hS0 ?_) | (refine wpHG_soft (by rfl) hS0 (by intro w' hSw; obtain ⟨q0, q1, q2, q3, q4, q5, q6⟩ := hSw; go_simp; rfl) ?_)
                        simp only [Act.put, List.setIfInBounds_toArray, List.set_cons_zero, List.set_cons_succ]
                        first | (refine wpHG_off (by rfl) hS0 ?_) | (refine wpHG_soft (by rfl) hS0 (by intro w' hSw; obtain ⟨q0, q1, q2, q3, q4, q5, q6⟩ := hSw; go_simp; rfl) ?_)
                        simp only [Act.put, List.setIfInBounds_toArray, List.set_cons_zero, List.set_cons_succ]
                        first | (refine wpHG_off (by rfl) hS0 ?_) | (refine wpHG_soft (by rfl) hS0 (by intro w' hSw; obtain ⟨q0, q1, q2, q3, q4, q5, q6⟩ := hSw; go_simp; rfl) ?_)
                        simp only [Act.put, List.setIfInBounds_toArray, List.set_cons_zero, List.set_cons_succ]
                        first | (refine wpHG_off (by rfl) hS0 ?_) | (refine wpHG_soft (by rfl) hS0 (by intro w' hSw; obtain ⟨q0, q1, q2, q3, q4, q5, q6⟩ := hSw; go_simp; rfl) ?_)
                        simp only [Act.put, List.setIfInBounds_toArray, List.set_cons_zero, List.set_cons_succ]
                        first | (refine wpHG_off (by rfl) hS0 ?_) | (refine wpHG_soft (by rfl) hS0 (by intro w' hSw; obtain ⟨q0, q1, q2, q3, q4, q5, q6⟩ := hSw; go_simp; rfl) ?_)
                        simp only [Act.put, List.setIfInBounds_toArray, List.set_cons_zero, List.set_cons_succ]
                        first | (refine wpHG_off (by rfl) hS0 ?_) | (refine wpHG_soft (by rfl) hS0 (by intro w' hSw; obtain ⟨q0, q1, q2, q3, q4, q5, q6⟩ := hSw; go_simp; rfl) ?_)
                        simp only [Act.put, List.setIfInBounds_toArray, List.set_cons_zero, List.set_cons_succ]
                        refine wpHG_soft (v := .bool false) (by rfl) hS0 (by intro w' hSw; obtain ⟨q0, q1, q2, q3, q4, q5, q6⟩ := hSw; go_simp) ?_
                        simp only [Act.put, List.setIfInBounds_toArray, List.set_cons_zero, List.set_cons_succ]
                        first | (refine wpHG_off (by rfl) hS0 ?_) | (refine wpHG_soft (by rfl) hS0 (by intro w' hSw; obtain ⟨q0, q1, q2, q3, q4, q5, q6⟩ := hSw; go_simp; rfl) ?_)
                        simp only [Act.put, List.setIfInBounds_toArray, List.set_cons_zero, List.set_cons_succ]
                        first | (refine wpHG_off (by rfl) hS0 ?_) | (refine wpHG_soft (by rfl) hS0 (by intro w' hSw; obtain ⟨q0, q1, q2, q3, q4, q5, q6⟩ := hSw; go_simp; rfl) ?_)
                        simp only [Act.put, List.setIfInBounds_toArray, List.set_cons_zero, List.set_cons_succ]
                        first | (refine wpHG_off (by rfl) hS0 ?_) | (refine wpHG_soft (by rfl) hS0 (by intro w' hSw; obtain ⟨q0, q1, q2, q3, q4, q5, q6⟩ := hSw; go_simp; rfl) ?_)
                        simp only [Act.put, List.setIfInBounds_toArray, List.set_cons_zero, List.set_cons_succ]
                        first | (refine wpHG_off (by rfl) hS0 ?_) | (refine wpHG_soft (by rfl) hS0 (by intro w' hSw; obtain ⟨q0, q1, q2, q3, q4, q5, q6⟩ := hSw; go_simp; rfl) ?_)
                        simp only [Act.put, List.setIfInBounds_toArray, List.set_cons_zero, List.set_cons_succ]
                        first | (refine wpHG_off (by rfl) hS0 ?_) | (refine wpHG_soft (by rfl) hS0 (by intro w' hSw; obtain ⟨q0, q1, q2, q3, q4, q5, q6⟩ := hSw; go_simp; rfl) ?_)
                        simp only [Act.put, List.setIfInBounds_toArray, List.set_cons_zero, List.set_cons_succ]
                        first | (refine wpHG_off (by rfl) hS0 ?_) | (refine wpHG_soft (by rfl) hS0 (by intro w' hSw; obtain ⟨q0, q1, q2, q3, q4, q5, q6⟩ := hSw; go_simp; rfl) ?_)
                        simp only [Act.put, List.setIfInBounds_toArray, List.set_cons_zero, List.set_cons_succ]
                        first | (refine wpHG_off (by rfl) hS0 ?_) | (refine wpHG_soft (by rfl) hS0 (by intro w' hSw; obtain ⟨q0, q1, q2, q3, q4, q5, q6⟩ := hSw; go_simp; rfl) ?_)
                        simp only [Act.put, List.setIfInBounds_toArray, List.set_cons_zero, List.set_cons_succ]
                        first | (refine wpHG_off (by rfl) hS0 ?_) | (refine wpHG_soft (by rfl) hS0 (by intro w' hSw; obtain ⟨q0, q1, q2, q3, q4, q5, q6⟩ := hSw; go_simp; rfl) ?_)
                        simp only [Act.put, List.setIfInBounds_toArray, List.set_cons_zero, List.set_cons_succ]
                        first | (refine wpHG_off (by rfl) hS0 ?_) | (refine wpHG_soft (by rfl) hS0 (by intro w' hSw; obtain ⟨q0, q1, q2, q3, q4, q5, q6⟩ := hSw; go_simp; rfl) ?_)
                        simp only [Act.put, List.setIfInBounds_toArray, List.set_cons_zero, List.set_cons_succ]
                        first | (refine wpHG_off (by rfl) hS0 ?_) | (refine wpHG_soft (by rfl) hS0 (by intro w' hSw; obtain ⟨q0, q1, q2, q3, q4, q5, q6⟩ := hSw; go_simp; rfl) ?_)
                        simp only [Act.put, List.setIfInBounds_toArray, List.set_cons_zero, List.set_cons_succ]
                        first | (refine wpHG_off (by rfl) hS0 ?_) | (refine wpHG_soft (by rfl) hS0 (by intro w' hSw; obtain ⟨q0, q1, q2, q3, q4, q5, q6⟩ := hSw; go_simp; rfl) ?_)
                        simp only [Act.put, List.setIfInBounds_toArray, List.set_cons_zero, List.set_cons_succ]
                        first | (refine wpHG_off (by rfl) hS0 ?_) | (refine wpHG_soft (by rfl) hS0 (by intro w' hSw; obtain ⟨q0, q1, q2, q3, q4, q5, q6⟩ := hSw; go_simp; rfl) ?_)
                        simp only [Act.put, List.setIfInBounds_toArray, List.set_cons_zero, List.set_cons_succ]
                        first | (refine wpHG_off (by rfl) hS0 ?_) | (refine wpHG_soft (by rfl) hS0 (by intro w' hSw; obtain ⟨q0, q1, q2, q3, q4, q5, q6⟩ := hSw; go_simp; rfl) ?_)
                        simp only [Act.put, List.setIfInBounds_toArray, List.set_cons_zero, List.set_cons_succ]
                        first | (refine wpHG_off (by rfl) hS0 ?_) | (refine wpHG_soft (by rfl) hS0 (by intro w' hSw; obtain ⟨q0, q1, q2, q3, q4, q5, q6⟩ := hSw; go_simp; rfl) ?_)
                        simp only [Act.put, List.setIfInBounds_toArray, List.set_cons_zero, List.set_cons_succ]
                        refine wpHG_nil ?_
                        clear hS0
                        go_wp2_with fail
                        go_roundg (gk - 1)
                        case measure => have := HK.out; omega
                        case rel => exact ⟨k + 1, _, by have := HK.out; omega, by go_num, rfl, Lib.hid (found_behind HT.out HFD.out E1.out HY.out (by unfold ahD; have := H12.out.1; have := H12.out.2; omega)), HB6.out.drew⟩
                · have h2b : (x.dg.at_ == y.dg.at_) = false := by simp [h2]
                  as_aux_lemma =>
                    go_wp2_with (rw [hW6])
                    refine wp_region_HG (fun W' => W'.cell? ⟨gu, k, none⟩ = some (.bool false) ∧ W'.cell? ⟨wr.heap.size, 0, none⟩ = some (.int .i64 x.dg.code) ∧ W'.cell? ⟨wr.heap.size, 1, none⟩ = some (.int .i64 x.dg.at_) ∧ W'.cell? ⟨wr.heap.size, 2, none⟩ = some (.int .i64 x.dg.fin) ∧ W'.cell? ⟨b1, o1 + m * 5, none⟩ = some (.int .i64 y.dg.code) ∧ W'.cell? ⟨b1, o1 + m * 5 + 1, none⟩ = some (.int .i64 y.dg.at_) ∧ W'.cell? ⟨b1, o1 + m * 5 + 2, none⟩ = some (.int .i64 y.dg.fin)) [] [true, true, true, true, true, true, true, true, true, true, true, true, true, true, true, true, true, true, true, true, true, true, true, true, true, true, true, true, true, true, true, true, true, true, true, true, true, true, true, true, true, true, true, true, true, true, true, true, true, true, true, true, true, true, true, true, true, true, true] (by kernel_rfl) (by kernel_rfl) rfl (by kernel_rfl) ?_
                    have hS0 := HSS.out
                    first | (refine wpHG_off (by rfl) hS0 ?_) | (refine wpHG_soft (by rfl) hS0 (by intro w' hSw; obtain ⟨q0, q1, q2, q3, q4, q5, q6⟩ := hSw; go_simp; rfl) ?_)
                    simp only [Act.put, List.setIfInBounds_toArray, List.set_cons_zero, List.set_cons_succ]
                    first | (refine wpHG_off (by rfl) hS0 ?_) | (refine wpHG_soft (by rfl) hS0 (by intro w' hSw; obtain ⟨q0, q1, q2, q3, q4, q5, q6⟩ := hSw; go_simp; rfl) ?_)
                    simp only [Act.put, List.setIfInBounds_toArray, List.set_cons_zero, List.set_cons_succ]
                    first | (refine wpHG_off (by rfl) hS0 ?_) | (refine wpHG_soft (by rfl) hS0 (by intro w' hSw; obtain ⟨q0, q1, q2, q3, q4, q5, q6⟩ := hSw; go_simp; rfl) ?_)
                    simp only [Act.put, List.setIfInBounds_toArray, List.set_cons_zero, List.set_cons_succ]
                    first | (refine wpHG_off (by rfl) hS0 ?_) | (refine wpHG_soft (by rfl) hS0 (by intro w' hSw; obtain ⟨q0, q1, q2, q3, q4, q5, q6⟩ := hSw; go_simp; rfl) ?_)
                    simp only [Act.put, List.setIfInBounds_toArray, List.set_cons_zero, List.set_cons_succ]
                    refine wpHG_soft (v := .bool true) (by rfl) hS0 (by intro w' hSw; obtain ⟨q0, q1, q2, q3, q4, q5, q6⟩ := hSw; go_simp) ?_
                    simp only [Act.put, List.setIfInBounds_toArray, List.set_cons_zero, List.set_cons_succ]
                    first | (refine wpHG_off (by rfl) hS0 ?_) | (refine wpHG_soft (by rfl) hS0 (by intro w' hSw; obtain ⟨q0, q1, q2, q3, q4, q5, q6⟩ := hSw; go_simp; rfl) ?_)
                    simp only [Act.put, List.setIfInBounds_toArray, List.set_cons_zero, List.set_cons_succ]
                    first | (refine wpHG_off (by rfl) hS0 ?_) | (refine wpHG_soft (by rfl) hS0 (by intro w' hSw; obtain ⟨q0, q1, q2, q3, q4, q5, q6⟩ := hSw; go_simp; rfl) ?_)
                    simp only [Act.put, List.setIfInBounds_toArray, List.set_cons_zero, List.set_cons_succ]
                    refine wpHG_soft (v := .bool false) (by rfl) hS0 (by intro w' hSw; obtain ⟨q0, q1, q2, q3, q4, q5, q6⟩ := hSw; go_simp) ?_
                    simp only [Act.put, List.setIfInBounds_toArray, List.set_cons_zero, List.set_cons_succ]
                    first | (refine wpHG_off (by rfl) hS0 ?_) | (refine wpHG_soft (by rfl) hS0 (by intro w' hSw; obtain ⟨q0, q1, q2, q3, q4, q5, q6⟩ := hSw; go_simp; rfl) ?_)
                    simp only [Act.put, List.setIfInBounds_toArray, List.set_cons_zero, List.set_cons_succ]
                    first | (refine wpHG_off (by rfl) hS0 ?_) | (refine wpHG_soft (by rfl) hS0 (by intro w' hSw; obtain ⟨q0, q1, q2, q3, q4, q5, q6⟩ := hSw; go_simp; rfl) ?_)
                    simp only [Act.put, List.setIfInBounds_toArray, List.set_cons_zero, List.set_cons_succ]
                    first | (refine wpHG_off (by rfl) hS0 ?_) | (refine wpHG_soft (by rfl) hS0 (by intro w' hSw; obtain ⟨q0, q1, q2, q3, q4, q5, q6⟩ := hSw; go_simp; rfl) ?_)
                    simp only [Act.put, List.setIfInBounds_toArray, List.set_cons_zero, List.set_cons_succ]
                    first | (refine wpHG_off (by rfl) hS0 ?_) | (refine wpHG_soft (by rfl) hS0 (by intro w' hSw; obtain ⟨q0, q1, q2, q3, q4, q5, q6⟩ := hSw; go_simp; rfl) ?_)
                    simp only [Act.put, List.setIfInBounds_toArray, List.set_cons_zero, List.set_cons_succ]
                    first | (refine wpHG_off (by rfl) hS0 ?_) | (refine wpHG_soft (by rfl) hS0 (by intro w' hSw; obtain ⟨q0, q1, q2, q3, q4, q5, q6⟩ := hSw; go_simp; rfl) ?_)
                    simp only [Act.put, List.setIfInBounds_toArray, List.set_cons_zero, List.set_cons_succ]
                    first | (refine wpHG_off (by rfl) hS0 ?_) | (refine wpHG_soft (by rfl) hS0 (by intro w' hSw; obtain ⟨q0, q1, q2, q3, q4, q5, q6⟩ := hSw; go_simp; rfl) ?_)
                    simp only [Act.put, List.setIfInBounds_toArray, List.set_cons_zero, List.set_cons_succ]
                    first | (refine wpHG_off (by rfl) hS0 ?_) | (refine wpHG_soft (by rfl) hS0 (by intro w' hSw; obtain ⟨q0, q1, q2, q3, q4, q5, q6⟩ := hSw; go_simp; rfl) ?_)
                    simp only [Act.put, List.setIfInBounds_toArray, List.set_cons_zero, List.set_cons_succ]
                    first | (refine wpHG_off (by rfl) hS0 ?_) | (refine wpHG_soft (by rfl) hS0 (by intro w' hSw; obtain ⟨q0, q1, q2, q3, q4, q5, q6⟩ := hSw; go_simp; rfl) ?_)
                    simp only [Act.put, List.setIfInBounds_toArray, List.set_cons_zero, List.set_cons_succ]
                    refine wpHG_soft (v := .bool false) (by rfl) hS0 (by intro w' hSw; obtain ⟨q0, q1, q2, q3, q4, q5, q6⟩ := hSw; go_simp) ?_
                    simp only [Act.put, List.setIfInBounds_toArray, List.set_cons_zero, List.set_cons_succ]
                    first | (refine wpHG_off (by rfl) hS0 ?_) | (refine wpHG_soft (by rfl) hS0 (by intro w' hSw; obtain ⟨q0, q1, q2, q3, q4, q5, q6⟩ := hSw; go_simp; rfl) ?_)
                    simp only [Act.put, List.setIfInBounds_toArray, List.set_cons_zero, List.set_cons_succ]
                    first | (refine wpHG_off (by rfl) hS0 ?_) | (refine wpHG_soft (by rfl) hS0 (by intro w' hSw; obtain ⟨q0, q1, q2, q3, q4, q5, q6⟩ := hSw; go_simp; rfl) ?_)
                    simp only [Act.put, List.setIfInBounds_toArray, List.set_cons_zero, List.set_cons_succ]
                    first | (refine wpHG_off (by rfl) hS0 ?_) | (refine wpHG_soft (by rfl) hS0 (by intro w' hSw; obtain ⟨q0, q1, q2, q3, q4, q5, q6⟩ := hSw; go_simp; rfl) ?_)
                    simp only [Act.put, List.setIfInBounds_toArray, List.set_cons_zero, List.set_cons_succ]
                    first | (refine wpHG_off (by rfl) hS0 ?_) | (refine wpHG_soft (by rfl) hS0 (by intro w' hSw; obtain ⟨q0, q1, q2, q3, q4, q5, q6⟩ := hSw; go_simp; rfl) ?_)
                    simp only [Act.put, List.setIfInBounds_toArray, List.set_cons_zero, List.set_cons_succ]
                    first | (refine wpHG_off (by rfl) hS0 ?_) | (refine wpHG_soft (by rfl) hS0 (by intro w' hSw; obtain ⟨q0, q1, q2, q3, q4, q5, q6⟩ := hSw; go_simp; rfl) ?_)
                    simp only [Act.put, List.setIfInBounds_toArray, List.set_cons_zero, List.set_cons_succ]
                    first | (refine wpHG_off (by rfl) hS0 ?_) | (refine wpHG_soft (by rfl) hS0 (by intro w' hSw; obtain ⟨q0, q1, q2, q3, q4, q5, q6⟩ := hSw; go_simp; rfl) ?_)
                    simp only [Act.put, List.setIfInBounds_toArray, List.set_cons_zero, List.set_cons_succ]
                    first | (refine wpHG_off (by rfl) hS0 ?_) | (refine wpHG_soft (by rfl) hS0 (by intro w' hSw; obtain ⟨q0, q1, q2, q3, q4, q5, q6⟩ := hSw; go_simp; rfl) ?_)
                    simp only [Act.put, List.setIfInBounds_toArray, List.set_cons_zero, List.set_cons_succ]
                    first | (refine wpHG_off (by rfl) hS0 ?_) | (refine wpHG_soft (by rfl) hS0 (by intro w' hSw; obtain ⟨q0, q1, q2, q3, q4, q5, q6⟩ := hSw; go_simp; rfl) ?_)
                    simp only [Act.put, List.setIfInBounds_toArray, List.set_cons_zero, List.set_cons_succ]
                    first | (refine wpHG_off (by rfl) hS0 ?_) | (refine wpHG_soft (by rfl) hS0 (by intro w' hSw; obtain ⟨q0, q1, q2, q3, q4, q5, q6⟩ := hSw; go_simp; rfl) ?_)
                    simp only [Act.put, List.setIfInBounds_toArray, List.set_cons_zero, List.set_cons_succ]
                    refine wpHG_soft (v := .bool false) (by rfl) hS0 (by intro w' hSw; obtain ⟨q0, q1, q2, q3, q4, q5, q6⟩ := hSw; go_simp) ?_
                    simp only [Act.put, List.setIfInBounds_toArray, List.set_cons_zero, List.set_cons_succ]
                    first | (refine wpHG_off (by rfl) hS0 ?_) | (refine wpHG_soft (by rfl) hS0 (by intro w' hSw; obtain ⟨q0, q1, q2, q3, q4, q5, q6⟩ := hSw; go_simp; rfl) ?_)
                    simp only [Act.put, List.setIfInBounds_toArray, List.set_cons_zero, List.set_cons_succ]
                    first | (refine wpHG_off (by rfl) hS0 ?_) | (refine wpHG_soft (by rfl) hS0 (by intro w' hSw; obtain ⟨q0, q1, q2, q3, q4, q5, q6⟩ := hSw; go_simp; rfl) ?_)
                    simp only [Act.put, List.setIfInBounds_toArray, List.set_cons_zero, List.set_cons_succ]
                    first | (refine wpHG_off (by rfl) hS0 ?_) | (refine wpHG_soft (by rfl) hS0 (by intro w' hSw; obtain ⟨q0, q1, q2, q3, q4, q5, q6⟩ := hSw; go_simp; rfl) ?_)
                    simp only [Act.put, List.setIfInBounds_toArray, List.set_cons_zero, List.set_cons_succ]
                    first | (refine wpHG_off (by rfl) hS0 ?_) | (refine wpHG_soft (by rfl) hS0 (by intro w' hSw; obtain ⟨q0, q1, q2, q3, q4, q5, q6⟩ := hSw; go_simp; rfl) ?_)
                    simp only [Act.put, List.setIfInBounds_toArray, List.set_cons_zero, List.set_cons_succ]
                    first | (refine wpHG_off (by rfl) hS0 ?_) | (refine wpHG_soft (by rfl) hS0 (by intro w' hSw; obtain ⟨q0, q1, q2, q3, q4, q5, q6⟩ := hSw; go_simp; rfl) ?_)
                    simp only [Act.put, List.setIfInBounds_toArray, List.set_cons_zero, List.set_cons_succ]
                    first | (refine wpHG_off (by rfl) hS0 ?_) | (refine wpHG_soft (by rfl) hS0 (by intro w' hSw; obtain ⟨q0, q1, q2, q3, q4, q5, q6⟩ := hSw; go_simp; rfl) ?_)
                    simp only [Act.put, List.setIfInBounds_toArray, List.set_cons_zero, List.set_cons_succ]
                    first | (refine wpHG_off (by rfl) hS0 ?_) | (refine wpHG_soft (by rfl) hS0 (by intro w' hSw; obtain ⟨q0, q1, q2, q3, q4, q5, q6⟩ := hSw; go_simp; rfl) ?_)
                    simp only [Act.put, List.setIfInBounds_toArray, List.set_cons_zero, List.set_cons_succ]
                    first | (refine wpHG_off (by rfl) hS0 ?_) | (refine wpHG_soft (by rfl) hS0 (by intro w' hSw; obtain ⟨q0, q1, q2, q3, q4, q5, q6⟩ := hSw; go_simp; rfl) ?_)
                    simp only [Act.put, List.setIfInBounds_toArray, List.set_cons_zero, List.set_cons_succ]
                    first | (refine wpHG_off (by rfl) hS0 ?_) | (refine wpHG_soft (by rfl) hS0 (by intro w' hSw; obtain ⟨q0, q1, q2, q3, q4, q5, q6⟩ := hSw; go_simp; rfl) ?_)
                    simp only [Act.put, List.setIfInBounds_toArray, List.set_cons_zero, List.set_cons_succ]
                    first | (refine wpHG_off (by rfl) hS0 ?_) | (refine wpHG_soft (by rfl) hS0 (by intro w' hSw; obtain ⟨q0, q1, q2, q3, q4, q5, q6⟩ := hSw; go_simp; rfl) ?_)
                    simp only [Act.put, List.setIfInBounds_toArray, List.set_cons_zero, List.set_cons_succ]
                    first | (refine wpHG_off (by rfl) hS0 ?_) | (refine wpHG_soft (by rfl) hS0 (by intro w' hSw; obtain ⟨q0, q1, q2, q3, q4, q5, q6⟩ := hSw; go_simp; rfl) ?_)
                    simp only [Act.put, List.setIfInBounds_toArray, List.set_cons_zero, List.set_cons_succ]
                    first | (refine wpHG_off (by rfl) hS0 ?_) | (refine wpHG_soft (by rfl) hS0 (by intro w' hSw; obtain ⟨q0, q1, q2, q3, q4, q5, q6⟩ := hSw; go_simp; rfl) ?_)
                    simp only [Act.put, List.setIfInBounds_toArray, List.set_cons_zero, List.set_cons_succ]
                    first | (refine wpHG_off (by rfl) hS0 ?_) | (refine wpHG_soft (by rfl) hS0 (by intro w' hSw; obtain ⟨q0, q1, q2, q3, q4, q5, q6⟩ := hSw; go_simp; rfl) ?_)
                    simp only [Act.put, List.setIfInBounds_toArray, List.set_cons_zero, List.set_cons_succ]
                    first | (refine wpHG_off (by rfl) hS0 ?_) | (refine wpHG_soft (by rfl) hS0 (by intro w' hSw; obtain ⟨q0, q1, q2, q3, q4, q5, q6⟩ := hSw; go_simp; rfl) ?_)
                    simp only [Act.put, List.setIfInBounds_toArray, List.set_cons_zero, List.set_cons_succ]
                    first | (refine wpHG_off (by rfl) hS0 ?_) | (refine wpHG_soft (by rfl) hS0 (by intro w' hSw; obtain ⟨q0, q1, q2, q3, q4, q5, q6⟩ := hSw; go_simp; rfl) ?_)
                    simp only [Act.put, List.setIfInBounds_toArray, List.set_cons_zero, List.set_cons_succ]
                    first | (refine wpHG_off (by rfl) hS0 ?_) | (refine wpHG_soft (by rfl) hS0 (by intro w' hSw; obtain ⟨q0, q1, q2, q3, q4, q5, q6⟩ := hSw; go_simp; rfl) ?_)
                    simp only [Act.put, List.setIfInBounds_toArray, List.set_cons_zero, List.set_cons_succ]
                    first | (refine wpHG_off (by rfl) hS0 ?_) | (refine wpHG_soft (by rfl) hS0 (by intro w' hSw; obtain ⟨q0, q1, q2, q3, q4, q5, q6⟩ := hSw; go_simp; rfl) ?_)
                    simp only [Act.put, List.setIfInBounds_toArray, List.set_cons_zero, List.set_cons_succ]
                    first | (refine wpHG_off (by rfl) hS0 ?_) | (refine wpHG_soft (by rfl) hS0 (by intro w' hSw; obtain ⟨q0, q1, q2, q3, q4, q5, q6⟩ := hSw; go_simp; rfl) ?_)
                    simp only [Act.put, List.setIfInBounds_toArray, List.set_cons_zero, List.set_cons_succ]
                    first | (refine wpHG_off (by rfl) hS0 ?_) | (refine wpHG_soft (by rfl) hS0 (by intro w' hSw; obtain ⟨q0, q1, q2, q3, q4, q5, q6⟩ := hSw; go_simp; rfl) ?_)
                    simp only [Act.put, List.setIfInBounds_toArray, List.set_cons_zero, List.set_cons_succ]
                    first | (refine wpHG_off (by rfl) hS0 ?_) | (refine wpHG_soft (by rfl) hS0 (by intro w' hSw; obtain ⟨q0, q1, q2, q3, q4, q5, q6⟩ := hSw; go_simp; rfl) ?_)
                    simp only [Act.put, List.setIfInBounds_toArray, List.set_cons_zero, List.set_cons_succ]
                    first | (refine wpHG_off (by rfl) hS0 ?_) | (refine wpHG_soft (by rfl) hS0 (by intro w' hSw; obtain ⟨q0, q1, q2, q3, q4, q5, q6⟩ := hSw; go_simp; rfl) ?_)
                    simp only [Act.put, List.setIfInBounds_toArray, List.set_cons_zero, List.set_cons_succ]
                    first | (refine wpHG_off (by rfl) hS0 ?_) | (refine wpHG_soft (by rfl) hS0 (by intro w' hSw; obtain ⟨q0, q1, q2, q3, q4, q5, q6⟩ := hSw; go_simp; rfl) ?_)
                    simp only [Act.put, List.setIfInBounds_toArray, List.set_cons_zero, List.set_cons_succ]
                    first | (refine wpHG_off (by rfl) hS0 ?_) | (refine wpHG_soft (by rfl) hS0 (by intro w' hSw; obtain ⟨q0, q1, q2, q3, q4, q5, q6⟩ := hSw; go_simp; rfl) ?_)
                    simp only [Act.put, List.setIfInBounds_toArray, List.set_cons_zero, List.set_cons_succ]
                    first | (refine wpHG_off (by rfl) hS0 ?_) | (refine wpHG_soft (by rfl) hS0 (by intro w' hSw; obtain ⟨q0, q1, q2, q3, q4, q5, q6⟩ := hSw; go_simp; rfl) ?_)
                    simp only [Act.put, List.setIfInBounds_toArray, List.set_cons_zero, List.set_cons_succ]
                    first | (refine wpHG_off (by rfl) hS0 ?_) | (refine wpHG_soft (by rfl) hS0 (by intro w' hSw; obtain ⟨q0, q1, q2, q3, q4, q5, q6⟩ := hSw; go_simp; rfl) ?_)
                    simp only [Act.put, List.setIfInBounds_toArray, List.set_cons_zero, List.set_cons_succ]
                    first | (refine wpHG_off (by rfl) hS0 ?_) | (refine wpHG_soft (by rfl) hS0 (by intro w' hSw; obtain ⟨q0, q1, q2, q3, q4, q5, q6⟩ := hSw; go_simp; rfl) ?_)
                    simp only [Act.put, List.setIfInBounds_toArray, List.set_cons_zero, List.set_cons_succ]
                    first | (refine wpHG_off (by rfl) hS0 ?_) | (refine wpHG_soft (by rfl) hS0 (by intro w' hSw; obtain ⟨q0, q1, q2, q3, q4, q5, q6⟩ := hSw; go_simp; rfl) ?_)
                    simp only [Act.put, List.setIfInBounds_toArray, List.set_cons_zero, List.set_cons_succ]
                    first | (refine wpHG_off (by rfl) hS0 ?_) | (refine wpHG_soft (by rfl) hS0 (by intro w' hSw; obtain ⟨q0, q1, q2, q3, q4, q5, q6⟩ := hSw; go_simp; rfl) ?_)
                    simp only [Act.put, List.setIfInBounds_toArray, List.set_cons_zero, List.set_cons_succ]
                    first | (refine wpHG_off (by rfl) hS0 ?_) | (refine wpHG_soft (by rfl) hS0 (by intro w' hSw; obtain ⟨q0, q1, q2, q3, q4, q5, q6⟩ := hSw; go_simp; rfl) ?_)
                    simp only [Act.put, List.setIfInBounds_toArray, List.set_cons_zero, List.set_cons_succ]
                    first | (refine wpHG_off (by rfl) hS0 ?_) | (refine wpHG_soft (by rfl) hS0 (by intro w' hSw; obtain ⟨q0, q1, q2, q3, q4, q5, q6⟩ := hSw; go_simp; rfl) ?_)
                    simp only [Act.put, List.setIfInBounds_toArray, List.set_cons_zero, List.set_cons_succ]
                    first | (refine wpHG_off (by rfl) hS0 ?_) | (refine wpHG_soft (by rfl) hS0 (by intro w' hSw; obtain ⟨q0, q1, q2, q3, q4, q5, q6⟩ := hSw; go_simp; rfl) ?_)
                    simp only [Act.put, List.setIfInBounds_toArray, List.set_cons_zero, List.set_cons_succ]
                    first | (refine wpHG_off (by rfl) hS0 ?_) | (refine wpHG_soft (by rfl) hS0 (by intro w' hSw; obtain ⟨q0, q1, q2, q3, q4, q5, q6⟩ := hSw; go_simp; rfl) ?_)
                    simp only [Act.put, List.setIfInBounds_toArray, List.set_cons_zero, List.set_cons_succ]
                    refine wpHG_nil ?_
                    clear hS0
                    go_wp2_with fail
                    go_roundg (gk - 1)
                    case measure => have := HK.out; omega
                    case rel => exact ⟨k + 1, _, by have := HK.out; omega, by go_num, rfl, Lib.hid (found_behind HT.out HFD.out E1.out HY.out (by unfold ahD; omega)), HB6.out.drew⟩
        · have hkn : k = n := by omega
          subst hkn
          have hfe := found_end HSO.out HT.out HL.out HZ.out HFD.out
          subst hfe
          as_aux_lemma =>
            have hzn : z.tag < k := by rw [← HL.out]; exact (List.getElem?_eq_some_iff.1 (HSO.out.at HT.out (List.mem_of_getElem? HZ.out))).1
            have hzi : (z.tag : Int) < (k : Int) := by omega
            have hgx := HSO.out.at HT.out (List.mem_of_getElem? HZ.out)
            have hzm : z ∈ xs := HSO.out.perm.mem_iff.1 (List.mem_of_getElem? HZ.out)
            have hub : Blk wr gu 4 (usedC S k i) := HM.out.2.below HBr.out hgo
            obtain ⟨tg, htg⟩ : ∃ tg, z.tag = tg := ⟨_, rfl⟩
            rw [htg] at hzn hzi hgx ⊢
            have HTG := Lib.hid htg
            clear htg
            have hcu : wr.cell? ⟨gu, tg, none⟩ = some (.bool (decide (tg ∈ doneM S i))) := (hub.cell _).trans (usedC_get hzn)
            have hfu : wr.frozen? ⟨gu, tg, none⟩ = false := hub.frozen _
            obtain ⟨W7, hW7⟩ : ∃ W7, wr.setCell ⟨gu, tg, none⟩ (.bool true) = W7 := ⟨_, rfl⟩
            have hu7 : Blk W7 gu 4 (usedC S k (i + 1)) := by rw [← hW7, ← usedC_succ HZ.out (by rw [HTG.out]; exact hzn), HTG.out]; exact hub.set_ _ _
            have hb7 : Below gu w3 W7 := by rw [← hW7]; exact (HM.out.1.trans (HBr.out.mono (by omega))).setCell (Nat.le_refl _) _
            obtain ⟨a0, a1, a2, a3, a4, hg0, hga⟩ := HBB.out
            have hg7 : Blk W7 gb 35 #[a0, a1, a2, a3, a4] := by rw [← hW7]; exact (hg0.below HBr.out hg0.lt).far (by show gb ≠ gu; have := HS4.out; omega) _
            have HGA := Lib.hid hga
            have HBW : Hid (Below w.heap.size w W7) := Lib.hid (HB3.out.trans (hb7.mono (by rw [← HGU.out]; exact HB3.out.size)))
            have HX7 := Lib.hid (HX.out.below HBW.out (Nat.le_refl _))
            obtain ⟨b1, o1, hA1, hb1, hc1⟩ := HX7.out tg z hgx
            subst hA1
            have hcA : ChAt w w.heap.size z := HC.out z hzm
            have hfz := HFW.out z hzm
            have hoz := HOK.out z hzm
            have HDG := Lib.hid (fun (w' : World) (h : Below w.heap.size w w') => Diagnostic_any s z.dg z.A z.n z.c w' hs hfz hoz.1 hoz.2.1 hoz.2.2 (HTAB.out.below h) ((hcA.2.below h (Nat.le_refl _)).mono h.size) hcA.1)
            have hdl := diagM_len s z.dg
            have hfc := hfz.2.1
            obtain ⟨L, hL⟩ : ∃ L, diagM s z.dg = L := ⟨_, rfl⟩
            rw [hL] at hdl HDG
            obtain ⟨q, hq⟩ : ∃ q, L.length = q := ⟨_, rfl⟩
            rw [hq] at hdl HDG
            obtain ⟨RN, hRN⟩ : ∃ RN, restM s S (i + 1) k = RN := ⟨_, rfl⟩
            have hrs : RL = (if 0 < i then [⟨#[]⟩] else []) ++ (L ++ RN) := by
              rw [← HRLD.out.1, restM_succ s S hlt, hRN]
              unfold pieceM
              rw [HZ.out]
              simp only
              rw [hL, List.append_assoc]
            have hq3 : 3 ≤ q ∧ q ≤ 23 := by omega
            have HLQ := Lib.hid hq
            have HRN := Lib.hid hRN
            have HRS := Lib.hid hrs
            have HU7 := Lib.hid hu7
            have HG7 := Lib.hid hg7
            have HB7 := Lib.hid hb7
            have HC1 := Lib.hid hc1
            clear hub hu7 hg0 hga hg7 hb7 hc1 hcA hfz hoz hdl hfc hL hq hRN hrs hgx hzm HFD
            obtain ⟨rn, hrn⟩ : ∃ rn, RN.length = rn := ⟨_, rfl⟩
            have HRNL := Lib.hid hrn
            have hrl : rl = (if 0 < i then 1 else 0) + (q + rn) := by
              have h1 := HRLD.out.2
              rw [HRS.out, List.length_append, List.length_append, HLQ.out, hrn] at h1
              rw [← h1]
              split <;> simp
            clear hrn
            by_cases h0 : 0 < i
            · have h0i : (0 : Int) < (i : Int) := by omega
              rw [if_pos h0] at hrl
              obtain ⟨zp, hzp⟩ : ∃ zp, S[i - 1]? = some zp := ⟨_, List.getElem?_eq_getElem (by have := HLL.out; omega)⟩
              have hup := at_up HSO.out hzp (by rw [show i - 1 + 1 = i by omega]; exact HZ.out)
              have ha1 := HGA.out zp h0 hzp
              subst ha1
              have hRL0 : RL = ⟨#[]⟩ :: (L ++ RN) := by rw [HRS.out, if_pos h0]; rfl
              obtain ⟨bL, oL, hAL, hbL, hcL⟩ := (HRL.out.below HB7.out (Nat.le_refl _)) 0 ⟨#[]⟩ (by rw [hRL0]; rfl)
              subst hAL
              have HRL0 := Lib.hid hRL0
              have hl0 : W7.drew.cell? ⟨bL, oL, none⟩ = some (.string ⟨#[]⟩) := by have := hcL 0 _ rfl; simp only [Nat.zero_mul, Nat.add_zero] at this; exact this
              have hv1 : W7.drew.cell? ⟨b1, o1 + tg * 5 + 1, none⟩ = some (.int .i64 z.dg.at_) := HC1.out 1 _ rfl
              have hg1 : W7.drew.cell? ⟨gb, 1, none⟩ = some (.int .i64 zp.dg.at_) := HG7.out.drew.cell 1
              have HSS : Hid (W7.drew.cell? ⟨bL, oL, none⟩ = some (.string ⟨#[]⟩) ∧ W7.drew.cell? ⟨b1, o1 + tg * 5 + 1, none⟩ = some (.int .i64 z.dg.at_) ∧ W7.drew.cell? ⟨gb, 1, none⟩ = some (.int .i64 zp.dg.at_)) := Lib.hid ⟨hl0, hv1, hg1⟩
              have hrl0 : ((rl : Int) == 0) = false := by simp; omega
              have hrl1 : (0 : Int) < (rl : Int) := by omega
              have hrl3 : 0 < rl := by omega
              have hrl2 : ¬ ((rl : Int) = 0) := by omega
              have HRLE := Lib.hid hrl
              clear hl0 hv1 hg1 hcL hRL0 hzp hrl
              go_wp2_with (rw [hW7])
              have hS0 := HSS.out
              refine wp_region_HG (fun W' => W'.cell? ⟨bL, oL, none⟩ = some (.string ⟨#[]⟩) ∧ W'.cell? ⟨b1, o1 + tg * 5 + 1, none⟩ = some (.int .i64 z.dg.at_) ∧ W'.cell? ⟨gb, 1, none⟩ = some (.int .i64 zp.dg.at_)) [] [true, true, true, true, true, true, true, true, true, true, true, true, true, true, true, true, true, true, true] (by kernel_rfl) (by kernel_rfl) rfl (by kernel_rfl) ?_
              first | (refine wpHG_off (by rfl) hS0 ?_) | (refine wpHG_soft (by rfl) hS0 (by intro w' hSw; obtain ⟨q0, q1, q2⟩ := hSw; go_simp; rfl) ?_)
              simp only [Act.put, List.setIfInBounds_toArray, List.set_cons_zero, List.set_cons_succ]
              first | (refine wpHG_off (by rfl) hS0 ?_) | (refine wpHG_soft (by rfl) hS0 (by intro w' hSw; obtain ⟨q0, q1, q2⟩ := hSw; go_simp; rfl) ?_)
              simp only [Act.put, List.setIfInBounds_toArray, List.set_cons_zero, List.set_cons_succ]
              refine wpHG_soft (v := .bool false) (by rfl) hS0 (by intro w' hSw; obtain ⟨q0, q1, q2⟩ := hSw; go_simp) ?_
              simp only [Act.put, List.setIfInBounds_toArray, List.set_cons_zero, List.set_cons_succ]
              first | (refine wpHG_off (by rfl) hS0 ?_) | (refine wpHG_soft (by rfl) hS0 (by intro w' hSw; obtain ⟨q0, q1, q2⟩ := hSw; go_simp; rfl) ?_)
              simp only [Act.put, List.setIfInBounds_toArray, List.set_cons_zero, List.set_cons_succ]
              first | (refine wpHG_off (by rfl) hS0 ?_) | (refine wpHG_soft (by rfl) hS0 (by intro w' hSw; obtain ⟨q0, q1, q2⟩ := hSw; go_simp; rfl) ?_)
              simp only [Act.put, List.setIfInBounds_toArray, List.set_cons_zero, List.set_cons_succ]
              first | (refine wpHG_off (by rfl) hS0 ?_) | (refine wpHG_soft (by rfl) hS0 (by intro w' hSw; obtain ⟨q0, q1, q2⟩ := hSw; go_simp; rfl) ?_)
              simp only [Act.put, List.setIfInBounds_toArray, List.set_cons_zero, List.set_cons_succ]
              first | (refine wpHG_off (by rfl) hS0 ?_) | (refine wpHG_soft (by rfl) hS0 (by intro w' hSw; obtain ⟨q0, q1, q2⟩ := hSw; go_simp; rfl) ?_)
              simp only [Act.put, List.setIfInBounds_toArray, List.set_cons_zero, List.set_cons_succ]
              refine wpHG_soft (v := .bool false) (by rfl) hS0 (by intro w' hSw; obtain ⟨q0, q1, q2⟩ := hSw; go_simp) ?_
              simp only [Act.put, List.setIfInBounds_toArray, List.set_cons_zero, List.set_cons_succ]
              first | (refine wpHG_off (by rfl) hS0 ?_) | (refine wpHG_soft (by rfl) hS0 (by intro w' hSw; obtain ⟨q0, q1, q2⟩ := hSw; go_simp; rfl) ?_)
              simp only [Act.put, List.setIfInBounds_toArray, List.set_cons_zero, List.set_cons_succ]
              first | (refine wpHG_off (by rfl) hS0 ?_) | (refine wpHG_soft (by rfl) hS0 (by intro w' hSw; obtain ⟨q0, q1, q2⟩ := hSw; go_simp; rfl) ?_)
              simp only [Act.put, List.setIfInBounds_toArray, List.set_cons_zero, List.set_cons_succ]
              first | (refine wpHG_off (by rfl) hS0 ?_) | (refine wpHG_soft (by rfl) hS0 (by intro w' hSw; obtain ⟨q0, q1, q2⟩ := hSw; go_simp; rfl) ?_)
              simp only [Act.put, List.setIfInBounds_toArray, List.set_cons_zero, List.set_cons_succ]
              first | (refine wpHG_off (by rfl) hS0 ?_) | (refine wpHG_soft (by rfl) hS0 (by intro w' hSw; obtain ⟨q0, q1, q2⟩ := hSw; go_simp; rfl) ?_)
              simp only [Act.put, List.setIfInBounds_toArray, List.set_cons_zero, List.set_cons_succ]
              first | (refine wpHG_off (by rfl) hS0 ?_) | (refine wpHG_soft (by rfl) hS0 (by intro w' hSw; obtain ⟨q0, q1, q2⟩ := hSw; go_simp; rfl) ?_)
              simp only [Act.put, List.setIfInBounds_toArray, List.set_cons_zero, List.set_cons_succ]
              first | (refine wpHG_off (by rfl) hS0 ?_) | (refine wpHG_soft (by rfl) hS0 (by intro w' hSw; obtain ⟨q0, q1, q2⟩ := hSw; go_simp; rfl) ?_)
              simp only [Act.put, List.setIfInBounds_toArray, List.set_cons_zero, List.set_cons_succ]
              first | (refine wpHG_off (by rfl) hS0 ?_) | (refine wpHG_soft (by rfl) hS0 (by intro w' hSw; obtain ⟨q0, q1, q2⟩ := hSw; go_simp; rfl) ?_)
              simp only [Act.put, List.setIfInBounds_toArray, List.set_cons_zero, List.set_cons_succ]
              first | (refine wpHG_off (by rfl) hS0 ?_) | (refine wpHG_soft (by rfl) hS0 (by intro w' hSw; obtain ⟨q0, q1, q2⟩ := hSw; go_simp; rfl) ?_)
              simp only [Act.put, List.setIfInBounds_toArray, List.set_cons_zero, List.set_cons_succ]
              first | (refine wpHG_off (by rfl) hS0 ?_) | (refine wpHG_soft (by rfl) hS0 (by intro w' hSw; obtain ⟨q0, q1, q2⟩ := hSw; go_simp; rfl) ?_)
              simp only [Act.put, List.setIfInBounds_toArray, List.set_cons_zero, List.set_cons_succ]
              refine wpHG_soft (v := .bool false) (by rfl) hS0 (by intro w' hSw; obtain ⟨q0, q1, q2⟩ := hSw; go_simp) ?_
              simp only [Act.put, List.setIfInBounds_toArray, List.set_cons_zero, List.set_cons_succ]
              first | (refine wpHG_off (by rfl) hS0 ?_) | (refine wpHG_soft (by rfl) hS0 (by intro w' hSw; obtain ⟨q0, q1, q2⟩ := hSw; go_simp; rfl) ?_)
              simp only [Act.put, List.setIfInBounds_toArray, List.set_cons_zero, List.set_cons_succ]
              refine wpHG_nil ?_
              clear hS0
              obtain ⟨Wd, hWd⟩ : ∃ Wd, W7.drew = Wd := ⟨_, rfl⟩
              rw [hWd]
              have hu8 : Blk Wd gu 4 (usedC S k (i + 1)) := by rw [← hWd]; exact HU7.out
              have hg8 : Blk Wd gb 35 #[a0, .int .i64 zp.dg.at_, a2, a3, a4] := by rw [← hWd]; exact HG7.out
              have hb8 : Below gu w3 Wd := by rw [← hWd]; exact HB7.out.drew
              have hbw8 : Below w.heap.size w Wd := by rw [← hWd]; exact HBW.out.drew
              have hx8 : RowAt 5 rdCells Wd w.heap.size (some ⟨b1, o1, none⟩) xs := by rw [← hWd]; exact HX7.out
              obtain ⟨AX, hAX⟩ : ∃ AX, (if cL = 1 then some ⟨bL, oL, none⟩ else (some (⟨bL, oL, none⟩ : Addr)).map (·.add (1 * 1))) = AX := ⟨_, rfl⟩
              have hrowX : RowAt 1 strCells w3 gu AX (L ++ RN) := by
                have := row_drop HRL.out (cap := cL) (k := 1) (by rw [HRLD.out.2]; exact hlc) (by rw [HRLD.out.2]; omega)
                rw [hAX, HRL0.out] at this
                exact this
              obtain ⟨rx, hrx⟩ : ∃ rx, rl - 1 = rx := ⟨_, rfl⟩
              obtain ⟨cx, hcx⟩ : ∃ cx, cL - 1 = cx := ⟨_, rfl⟩
              have hsl : ∀ W, (Instr.slice 24 (.slice (some ⟨bL, oL, none⟩) rl cL) (some (.int .i64 1)) none none).run Tryz.prog W = .ok (.slice AX rx cx) W := fun W => by
                have := slice_from W (some ⟨bL, oL, none⟩) rl cL 1 (by omega)
                rw [hAX, hrx, hcx] at this
                exact this
              have hrxe : rx = q + rn := by have := HRLE.out; omega
              have hrxc : rx ≤ cx ∧ cx ≤ maxLen := by omega
              have HSL := Lib.hid hsl
              have hrl4 : ¬ (rl : Int) < 1 := by omega
              have hAX2 : (if cL = 1 then some (⟨bL, oL, none⟩ : Addr) else some (⟨bL, oL + 1, none⟩ : Addr)) = AX := by rw [← hAX]; rfl
              clear hsl hAX hWd hrl0 hrl1 hrl2 hrl3
              as_aux_lemma =>
                have HROWX := Lib.hid hrowX
                have HRXE := Lib.hid hrxe
                obtain ⟨b2, o2, hA2, hb2, hc2⟩ := hx8 tg z (by have := HSO.out.at HT.out (List.mem_of_getElem? HZ.out); rw [HTG.out] at this; exact this)
                cases hA2
                have v0 : Wd.cell? ⟨b1, o1 + tg * 5, none⟩ = some (.int .i64 z.dg.code) := by simpa using hc2 0 _ rfl
                have v1 : Wd.cell? ⟨b1, o1 + tg * 5 + 1, none⟩ = some (.int .i64 z.dg.at_) := hc2 1 _ rfl
                have v2 : Wd.cell? ⟨b1, o1 + tg * 5 + 2, none⟩ = some (.int .i64 z.dg.fin) := hc2 2 _ rfl
                have v3 : Wd.cell? ⟨b1, o1 + tg * 5 + 3, none⟩ = some (.string z.dg.text) := hc2 3 _ rfl
                have v4 : Wd.cell? ⟨b1, o1 + tg * 5 + 4, none⟩ = some (.slice z.A z.n z.c) := hc2 4 _ rfl
                have g0 : Wd.cell? ⟨gb, 0, none⟩ = some a0 := hg8.cell 0
                have g1 : Wd.cell? ⟨gb, 1, none⟩ = some (.int .i64 zp.dg.at_) := hg8.cell 1
                have g2 : Wd.cell? ⟨gb, 2, none⟩ = some a2 := hg8.cell 2
                have g3 : Wd.cell? ⟨gb, 3, none⟩ = some a3 := hg8.cell 3
                have g4 : Wd.cell? ⟨gb, 4, none⟩ = some a4 := hg8.cell 4
                have f0 : Wd.frozen? ⟨gb, 0, none⟩ = false := hg8.frozen 0
                have f1 : Wd.frozen? ⟨gb, 1, none⟩ = false := hg8.frozen 1
                have f2 : Wd.frozen? ⟨gb, 2, none⟩ = false := hg8.frozen 2
                have f3 : Wd.frozen? ⟨gb, 3, none⟩ = false := hg8.frozen 3
                have f4 : Wd.frozen? ⟨gb, 4, none⟩ = false := hg8.frozen 4
                obtain ⟨W8, hW8⟩ : ∃ W8, ((((Wd.setCell ⟨gb, 0, none⟩ (.int .i64 z.dg.code)).setCell ⟨gb, 1, none⟩ (.int .i64 z.dg.at_)).setCell ⟨gb, 2, none⟩ (.int .i64 z.dg.fin)).setCell ⟨gb, 3, none⟩ (.string z.dg.text)).setCell ⟨gb, 4, none⟩ (.slice z.A z.n z.c) = W8 := ⟨_, rfl⟩
                have hgbu : gu ≠ gb := by have := HS4.out; omega
                have HU8 : Hid (Blk W8 gu 4 (usedC S k (i + 1))) := Lib.hid (by rw [← hW8]; exact (((((hu8.far hgbu _).far hgbu _).far hgbu _).far hgbu _).far hgbu _))
                have HG8 : Hid (Blk W8 gb 35 #[.int .i64 z.dg.code, .int .i64 z.dg.at_, .int .i64 z.dg.fin, .string z.dg.text, .slice z.A z.n z.c]) := Lib.hid (by
                  have := ((((hg8.set_ 0 (.int .i64 z.dg.code)).set_ 1 (.int .i64 z.dg.at_)).set_ 2 (.int .i64 z.dg.fin)).set_ 3 (.string z.dg.text)).set_ 4 (.slice z.A z.n z.c)
                  rw [← hW8]
                  simpa using this)
                have hgbl : gu ≤ gb := by have := HS4.out; omega
                have HB8 : Hid (Below gu w3 W8) := Lib.hid (by rw [← hW8]; exact (((((hb8.setCell hgbl _).setCell hgbl _).setCell hgbl _).setCell hgbl _).setCell hgbl _))
                have hwb : w.heap.size ≤ gb := by have := HB3.out.size; have := HGU.out; omega
                have HBW8 : Hid (Below w.heap.size w W8) := Lib.hid (by rw [← hW8]; exact (((((hbw8.setCell hwb _).setCell hwb _).setCell hwb _).setCell hwb _).setCell hwb _))
                have HX8 := Lib.hid (HX.out.below HBW8.out (Nat.le_refl _))
                clear hu8 hg8 hb8 hbw8 hx8 hc2 hrowX hrxe hgbu hgbl hwb
                go_upto_region 23 with (rw [HSL.out])
                go_cut [] (fun wx => wx = W8)
                case first =>
                  go_wp2_with fail
                  go_meet
                  rfl
                case rest =>
                  subst hcut
                  clear hW8
                  obtain ⟨b2, o2, hA2, hb2, hc2⟩ := HX8.out tg z (by have := HSO.out.at HT.out (List.mem_of_getElem? HZ.out); rw [HTG.out] at this; exact this)
                  cases hA2
                  have v0 : wc.cell? ⟨b1, o1 + tg * 5, none⟩ = some (.int .i64 z.dg.code) := by simpa using hc2 0 _ rfl
                  have v1 : wc.cell? ⟨b1, o1 + tg * 5 + 1, none⟩ = some (.int .i64 z.dg.at_) := hc2 1 _ rfl
                  have v2 : wc.cell? ⟨b1, o1 + tg * 5 + 2, none⟩ = some (.int .i64 z.dg.fin) := hc2 2 _ rfl
                  have v3 : wc.cell? ⟨b1, o1 + tg * 5 + 3, none⟩ = some (.string z.dg.text) := hc2 3 _ rfl
                  have v4 : wc.cell? ⟨b1, o1 + tg * 5 + 4, none⟩ = some (.slice z.A z.n z.c) := hc2 4 _ rfl
                  clear hc2
                  have hq3i : ¬ (q : Int) < 3 := by omega
                  have hqr : ¬ (rx : Int) < (q : Int) := by have := HRXE.out; omega
                  obtain ⟨AN, hAN⟩ : ∃ AN, (if cx = q then AX else (AX : Option Addr).map (·.add (q * 1))) = AN := ⟨_, rfl⟩
                  obtain ⟨cn, hcn⟩ : ∃ cn, cx - q = cn := ⟨_, rfl⟩
                  have HVE1 : Hid (cx = q → Value.slice AX (rx - q) 0 = Value.slice AN rn cn) := Lib.hid (fun h => by
                    rw [← hAN, ← hcn, if_pos h, h, Nat.sub_self, show rx - q = rn by have := HRXE.out; omega])
                  have HVE2 : Hid (¬ cx = q → Value.slice ((AX : Option Addr).map (fun x => x.add q)) (rx - q) (cx - q) = Value.slice AN rn cn) := Lib.hid (fun h => by
                    rw [← hAN, ← hcn, if_neg h, Nat.mul_one, show rx - q = rn by have := HRXE.out; omega])
                  have hLR : (L ++ RN).length = rx := by rw [List.length_append, HLQ.out, HRNL.out, HRXE.out]
                  have HROWT : Hid (RowAt 1 strCells w3 gu AX L) := Lib.hid (by
                    have := row_take HROWX.out (cap := cx) (k := q) (by rw [hLR]; exact hrxc.1)
                    rw [addr0, ← HLQ.out, List.take_left'  rfl] at this
                    exact this)
                  have HROWN : Hid (RowAt 1 strCells w3 gu AN RN) := Lib.hid (by
                    have := row_drop HROWX.out (cap := cx) (k := q) (by rw [hLR]; exact hrxc.1) (by rw [hLR, HRXE.out]; omega)
                    rw [hAN, ← HLQ.out, List.drop_left' rfl] at this
                    exact this)
                  have hcnb : rn ≤ cn ∧ cn ≤ maxLen := by have := HRXE.out; omega
                  have hrn480 : rn ≤ 480 := by have := HRXE.out; omega
                  clear hAN hcn hLR
                  go_wp2_with fail
                  refine (HDG.out _ HBW8.out).mono ?_
                  rintro e w9 ⟨⟨v, rfl, ho9⟩, hb9⟩
                  have HB9 := Lib.hid hb9
                  have HB39 : Hid (Below gu w3 w9) := Lib.hid (HB8.out.trans (hb9.mono (by have := HU8.out.lt; omega)))
                  obtain ⟨A9, c9, rfl, hq1', hq2'⟩ := ho9.shape
                  have hrow9 := ho9.rowAt (cells := strCells) (l := L) rfl (strV_flat _) (fun _ _ => rfl) HLQ.out
                  have HROW9 := Lib.hid hrow9
                  have HTX := Lib.hid ((Texts_any AX A9 q q cx c9 L L w9 ((HROWT.out.below HB39.out (Nat.le_refl _)).mono (by have := HU8.out.lt; have := hb9.size; omega)) hrow9 HLQ.out HLQ.out (by omega)).mono (R' := fun e w' => e = .returned (.bool true) ∧ Below w9.heap.size w9 w') fun e w' ⟨h1, h2⟩ => ⟨by rw [h1]; simp, h2⟩)
                  clear ho9 hb9 hrow9
                  go_wp2_with fail
                  refine HTX.out.mono ?_
                  rintro e w10 ⟨rfl, hb10⟩
                  have HB10 := Lib.hid hb10
                  have HB810 : Hid (Below wc.heap.size wc w10) := Lib.hid (HB9.out.trans (hb10.mono HB9.out.size))
                  have HB310 : Hid (Below gu w3 w10) := Lib.hid (HB39.out.trans (hb10.mono (by have := HU8.out.lt; have := HB9.out.size; omega)))
                  have HU10 : Hid (Blk w10 gu 4 (usedC S k (i + 1))) := Lib.hid (HU8.out.below HB810.out HU8.out.lt)
                  have HG10 : Hid (Blk w10 gb 35 #[.int .i64 z.dg.code, .int .i64 z.dg.at_, .int .i64 z.dg.fin, .string z.dg.text, .slice z.A z.n z.c]) := Lib.hid (HG8.out.below HB810.out HG8.out.lt)
                  clear hb10
                  go_wp2_with fail
                  all_goals
                    go_roundg (gko - 1)
                    case measure => have := HI.out; omega
                    case rel => exact ⟨i + 1, AN, cn, by have := HI.out; omega, by go_num, by (rw [HRN.out, HRNL.out]; first | exact HVE1.out (by assumption) | exact HVE2.out (by assumption)), by rw [HRN.out, HRNL.out]; exact hcnb.1, by rw [HRN.out, HRNL.out]; exact hrn480, hcnb.2, Lib.hid (by rw [HRN.out]; exact HROWN.out), Lib.hid ⟨HB310.out, HU10.out⟩, Lib.hid ⟨_, _, _, _, _, HG10.out, fun z' _ hz' => by
                      have h1 := HZ.out
                      rw [show i + 1 - 1 = i from rfl] at hz'
                      rw [h1] at hz'
                      cases hz'
                      rfl⟩⟩
            · have h0i : ¬ (0 : Int) < (i : Int) := by omega
              rw [if_neg h0, Nat.zero_add] at hrl
              have hu8 := HU7.out
              have hg8 := HG7.out
              have hb8 := HB7.out
              have hbw8 := HBW.out
              have hx8 := HX7.out
              have hrowX : RowAt 1 strCells w3 gu AL (L ++ RN) := by
                have := HRL.out
                rw [HRS.out, if_neg h0] at this
                exact this
              have hrxe : rl = q + rn := hrl
              have hrxc : rl ≤ cL ∧ cL ≤ maxLen := by omega
              clear hrl
              as_aux_lemma =>
                have HROWX := Lib.hid hrowX
                have HRXE := Lib.hid hrxe
                obtain ⟨b2, o2, hA2, hb2, hc2⟩ := hx8 tg z (by have := HSO.out.at HT.out (List.mem_of_getElem? HZ.out); rw [HTG.out] at this; exact this)
                cases hA2
                have v0 : W7.cell? ⟨b1, o1 + tg * 5, none⟩ = some (.int .i64 z.dg.code) := by simpa using hc2 0 _ rfl
                have v1 : W7.cell? ⟨b1, o1 + tg * 5 + 1, none⟩ = some (.int .i64 z.dg.at_) := hc2 1 _ rfl
                have v2 : W7.cell? ⟨b1, o1 + tg * 5 + 2, none⟩ = some (.int .i64 z.dg.fin) := hc2 2 _ rfl
                have v3 : W7.cell? ⟨b1, o1 + tg * 5 + 3, none⟩ = some (.string z.dg.text) := hc2 3 _ rfl
                have v4 : W7.cell? ⟨b1, o1 + tg * 5 + 4, none⟩ = some (.slice z.A z.n z.c) := hc2 4 _ rfl
                have g0 : W7.cell? ⟨gb, 0, none⟩ = some a0 := hg8.cell 0
                have g1 : W7.cell? ⟨gb, 1, none⟩ = some (a1) := hg8.cell 1
                have g2 : W7.cell? ⟨gb, 2, none⟩ = some a2 := hg8.cell 2
                have g3 : W7.cell? ⟨gb, 3, none⟩ = some a3 := hg8.cell 3
                have g4 : W7.cell? ⟨gb, 4, none⟩ = some a4 := hg8.cell 4
                have f0 : W7.frozen? ⟨gb, 0, none⟩ = false := hg8.frozen 0
                have f1 : W7.frozen? ⟨gb, 1, none⟩ = false := hg8.frozen 1
                have f2 : W7.frozen? ⟨gb, 2, none⟩ = false := hg8.frozen 2
                have f3 : W7.frozen? ⟨gb, 3, none⟩ = false := hg8.frozen 3
                have f4 : W7.frozen? ⟨gb, 4, none⟩ = false := hg8.frozen 4
                obtain ⟨W8, hW8⟩ : ∃ W8, ((((W7.setCell ⟨gb, 0, none⟩ (.int .i64 z.dg.code)).setCell ⟨gb, 1, none⟩ (.int .i64 z.dg.at_)).setCell ⟨gb, 2, none⟩ (.int .i64 z.dg.fin)).setCell ⟨gb, 3, none⟩ (.string z.dg.text)).setCell ⟨gb, 4, none⟩ (.slice z.A z.n z.c) = W8 := ⟨_, rfl⟩
                have hgbu : gu ≠ gb := by have := HS4.out; omega
                have HU8 : Hid (Blk W8 gu 4 (usedC S k (i + 1))) := Lib.hid (by rw [← hW8]; exact (((((hu8.far hgbu _).far hgbu _).far hgbu _).far hgbu _).far hgbu _))
                have HG8 : Hid (Blk W8 gb 35 #[.int .i64 z.dg.code, .int .i64 z.dg.at_, .int .i64 z.dg.fin, .string z.dg.text, .slice z.A z.n z.c]) := Lib.hid (by
                  have := ((((hg8.set_ 0 (.int .i64 z.dg.code)).set_ 1 (.int .i64 z.dg.at_)).set_ 2 (.int .i64 z.dg.fin)).set_ 3 (.string z.dg.text)).set_ 4 (.slice z.A z.n z.c)
                  rw [← hW8]
                  simpa using this)
                have hgbl : gu ≤ gb := by have := HS4.out; omega
                have HB8 : Hid (Below gu w3 W8) := Lib.hid (by rw [← hW8]; exact (((((hb8.setCell hgbl _).setCell hgbl _).setCell hgbl _).setCell hgbl _).setCell hgbl _))
                have hwb : w.heap.size ≤ gb := by have := HB3.out.size; have := HGU.out; omega
                have HBW8 : Hid (Below w.heap.size w W8) := Lib.hid (by rw [← hW8]; exact (((((hbw8.setCell hwb _).setCell hwb _).setCell hwb _).setCell hwb _).setCell hwb _))
                have HX8 := Lib.hid (HX.out.below HBW8.out (Nat.le_refl _))
                clear hu8 hg8 hb8 hbw8 hx8 hc2 hrowX hrxe hgbu hgbl hwb
                go_upto_region 23 with (rw [hW7])
                go_cut [] (fun wx => wx = W8)
                case first =>
                  go_wp2_with fail
                  go_meet
                  rfl
                case rest =>
                  subst hcut
                  clear hW8
                  obtain ⟨b2, o2, hA2, hb2, hc2⟩ := HX8.out tg z (by have := HSO.out.at HT.out (List.mem_of_getElem? HZ.out); rw [HTG.out] at this; exact this)
                  cases hA2
                  have v0 : wc.cell? ⟨b1, o1 + tg * 5, none⟩ = some (.int .i64 z.dg.code) := by simpa using hc2 0 _ rfl
                  have v1 : wc.cell? ⟨b1, o1 + tg * 5 + 1, none⟩ = some (.int .i64 z.dg.at_) := hc2 1 _ rfl
                  have v2 : wc.cell? ⟨b1, o1 + tg * 5 + 2, none⟩ = some (.int .i64 z.dg.fin) := hc2 2 _ rfl
                  have v3 : wc.cell? ⟨b1, o1 + tg * 5 + 3, none⟩ = some (.string z.dg.text) := hc2 3 _ rfl
                  have v4 : wc.cell? ⟨b1, o1 + tg * 5 + 4, none⟩ = some (.slice z.A z.n z.c) := hc2 4 _ rfl
                  clear hc2
                  have hq3i : ¬ (q : Int) < 3 := by omega
                  have hqr : ¬ (rl : Int) < (q : Int) := by have := HRXE.out; omega
                  obtain ⟨AN, hAN⟩ : ∃ AN, (if cL = q then AL else (AL : Option Addr).map (·.add (q * 1))) = AN := ⟨_, rfl⟩
                  obtain ⟨cn, hcn⟩ : ∃ cn, cL - q = cn := ⟨_, rfl⟩
                  have HVE1 : Hid (cL = q → Value.slice AL (rl - q) 0 = Value.slice AN rn cn) := Lib.hid (fun h => by
                    rw [← hAN, ← hcn, if_pos h, h, Nat.sub_self, show rl - q = rn by have := HRXE.out; omega])
                  have HVE2 : Hid (¬ cL = q → Value.slice ((AL : Option Addr).map (fun x => x.add q)) (rl - q) (cL - q) = Value.slice AN rn cn) := Lib.hid (fun h => by
                    rw [← hAN, ← hcn, if_neg h, Nat.mul_one, show rl - q = rn by have := HRXE.out; omega])
                  have hLR : (L ++ RN).length = rl := by rw [List.length_append, HLQ.out, HRNL.out, HRXE.out]
                  have HROWT : Hid (RowAt 1 strCells w3 gu AL L) := Lib.hid (by
                    have := row_take HROWX.out (cap := cL) (k := q) (by rw [hLR]; exact hrxc.1)
                    rw [addr0, ← HLQ.out, List.take_left'  rfl] at this
                    exact this)
                  have HROWN : Hid (RowAt 1 strCells w3 gu AN RN) := Lib.hid (by
                    have := row_drop HROWX.out (cap := cL) (k := q) (by rw [hLR]; exact hrxc.1) (by rw [hLR, HRXE.out]; omega)
                    rw [hAN, ← HLQ.out, List.drop_left' rfl] at this
                    exact this)
                  have hcnb : rn ≤ cn ∧ cn ≤ maxLen := by have := HRXE.out; omega
                  have hrn480 : rn ≤ 480 := by have := HRXE.out; omega
                  clear hAN hcn hLR
                  go_wp2_with fail
                  refine (HDG.out _ HBW8.out).mono ?_
                  rintro e w9 ⟨⟨v, rfl, ho9⟩, hb9⟩
                  have HB9 := Lib.hid hb9
                  have HB39 : Hid (Below gu w3 w9) := Lib.hid (HB8.out.trans (hb9.mono (by have := HU8.out.lt; omega)))
                  obtain ⟨A9, c9, rfl, hq1', hq2'⟩ := ho9.shape
                  have hrow9 := ho9.rowAt (cells := strCells) (l := L) rfl (strV_flat _) (fun _ _ => rfl) HLQ.out
                  have HROW9 := Lib.hid hrow9
                  have HTX := Lib.hid ((Texts_any AL A9 q q cL c9 L L w9 ((HROWT.out.below HB39.out (Nat.le_refl _)).mono (by have := HU8.out.lt; have := hb9.size; omega)) hrow9 HLQ.out HLQ.out (by omega)).mono (R' := fun e w' => e = .returned (.bool true) ∧ Below w9.heap.size w9 w') fun e w' ⟨h1, h2⟩ => ⟨by rw [h1]; simp, h2⟩)
                  clear ho9 hb9 hrow9
                  go_wp2_with fail
                  refine HTX.out.mono ?_
                  rintro e w10 ⟨rfl, hb10⟩
                  have HB10 := Lib.hid hb10
                  have HB810 : Hid (Below wc.heap.size wc w10) := Lib.hid (HB9.out.trans (hb10.mono HB9.out.size))
                  have HB310 : Hid (Below gu w3 w10) := Lib.hid (HB39.out.trans (hb10.mono (by have := HU8.out.lt; have := HB9.out.size; omega)))
                  have HU10 : Hid (Blk w10 gu 4 (usedC S k (i + 1))) := Lib.hid (HU8.out.below HB810.out HU8.out.lt)
                  have HG10 : Hid (Blk w10 gb 35 #[.int .i64 z.dg.code, .int .i64 z.dg.at_, .int .i64 z.dg.fin, .string z.dg.text, .slice z.A z.n z.c]) := Lib.hid (HG8.out.below HB810.out HG8.out.lt)
                  clear hb10
                  go_wp2_with fail
                  all_goals
                    go_roundg (gko - 1)
                    case measure => have := HI.out; omega
                    case rel => exact ⟨i + 1, AN, cn, by have := HI.out; omega, by go_num, by (rw [HRN.out, HRNL.out]; first | exact HVE1.out (by assumption) | exact HVE2.out (by assumption)), by rw [HRN.out, HRNL.out]; exact hcnb.1, by rw [HRN.out, HRNL.out]; exact hrn480, hcnb.2, Lib.hid (by rw [HRN.out]; exact HROWN.out), Lib.hid ⟨HB310.out, HU10.out⟩, Lib.hid ⟨_, _, _, _, _, HG10.out, fun z' _ hz' => by
                      have h1 := HZ.out
                      rw [show i + 1 - 1 = i from rfl] at hz'
                      rw [h1] at hz'
                      cases hz'
                      rfl⟩⟩
    · have hin : i = n := by omega
      subst hin
      have hr0 : restM s S i i = [] := restM_end s S i
      rw [hr0]
      go_wp2_with fail
      go_ret
      exact ⟨rfl, HB3.out.trans (HM.out.1.mono (by rw [← HGU.out]; exact HB3.out.size))⟩
end Go.Proofs.YtinpopjnnljkhaaGreatDoor
