/- The reference's before and way, walked. -/
import Derived.Test.YtpdimehoepfgaaaRdW
import Derived.Test.YtpdimehoepfgaaaPl10
namespace Go.Proofs.Ytpdimehoepfgaaa
open Go.RowKit

theorem lexLt_drop {a b : List Int} {k : Nat} {x : Int} (ha : a[k]? = some x) (hb : b[k]? = some x) : lexLt (a.drop k) (b.drop k) = lexLt (a.drop (k + 1)) (b.drop (k + 1)) := by
  obtain ⟨h1, h2⟩ := List.getElem?_eq_some_iff.1 ha
  obtain ⟨h3, h4⟩ := List.getElem?_eq_some_iff.1 hb
  rw [List.drop_eq_getElem_cons h1, List.drop_eq_getElem_cons h3, h2, h4, lexLt, if_pos rfl]

theorem lexLt_at {a b : List Int} {k : Nat} {x y : Int} (ha : a[k]? = some x) (hb : b[k]? = some y) (hne : x ≠ y) : lexLt (a.drop k) (b.drop k) = decide (x < y) := by
  obtain ⟨h1, h2⟩ := List.getElem?_eq_some_iff.1 ha
  obtain ⟨h3, h4⟩ := List.getElem?_eq_some_iff.1 hb
  rw [List.drop_eq_getElem_cons h1, List.drop_eq_getElem_cons h3, h2, h4, lexLt, if_neg hne]

set_option maxHeartbeats 1000000 in
theorem before_any (A1 A2 : Option Addr) (n1 n2 c1 c2 : Nat) (a b : List Int) (w : World) (h1 : RowAt 1 (fun z => [Value.int .i64 z]) w w.heap.size A1 a) (h2 : RowAt 1 (fun z => [Value.int .i64 z]) w w.heap.size A2 b) (hl1 : a.length = n1) (hl2 : b.length = n2) (hn : n1 ≤ 1000000) :
    Calls Try.prog 34 #[.slice A1 n1 c1, .slice A2 n2 c2] w fun e w' => e = .returned (.bool (beforeB a b)) ∧ Below w.heap.size w w' := by
  by_cases hz : n2 = 0
  · have hres : beforeB a b = true := by unfold beforeB; rw [if_pos (.inl (by omega))]; exact decide_eq_true (.inl (by omega))
    rw [hres]
    have hz1 : (n2 == 0) = true := by simp [hz]
    have hz2 : ((n2 : Int) == 0) = true := by simp [hz]
    clear hz h1 h2 hl1 hl2 hres
    go_enter Try.func34, Try.ntmps34
    go_wp2_with fail
    go_ret
    exact ⟨rfl, by (repeat (first | exact Below.refl _ _ | assumption | refine Below.trans ?_ (Below.mono (by assumption) (by first | omega | (simp; done) | (simp; omega))) | refine Below.alloc ?_ (by first | omega | (simp; done) | (simp; omega)) _ | refine Below.setCell ?_ (by first | omega | (simp; done) | (simp; omega)) _ | refine Below.drew ?_ | refine below_drewN ?_ _))⟩
  have hz1 : (n2 == 0) = false := by simp [hz]
  have hz2 : ((n2 : Int) == 0) = false := by simp [hz]
  by_cases hne : n1 = n2
  · subst hne
    have hres : beforeB a b = lexLt a b := by unfold beforeB; rw [if_neg (by omega)]
    rw [hres]
    have H1 := Lib.hid h1
    have H2 := Lib.hid h2
    have HL1 := Lib.hid hl1
    have HL2 := Lib.hid hl2
    clear h1 h2 hl1 hl2 hres hz
    go_enter Try.func34, Try.ntmps34
    go_wp2_with fail
    go_loopg [5] n1 (fun gk s wr => ∃ k : Nat, k + gk = n1 ∧ s = .int .i64 k ∧ Below w.heap.size w wr ∧ lexLt a b = lexLt (a.drop k) (b.drop k))
    case atStart => exact ⟨0, by omega, rfl, Below.refl _ _, rfl⟩
    case round =>
      obtain ⟨k, hk, rfl, hB, ht⟩ := hrel
      have hk' : k ≤ n1 := by omega
      have HK := Lib.hid hk
      have HT := Lib.hid ht
      clear hk ht
      by_cases hlt : k < n1
      · have e1 : a[k]? = some (a[k]'(by rw [HL1.out]; exact hlt)) := List.getElem?_eq_getElem _
        have e2 : b[k]? = some (b[k]'(by rw [HL2.out]; exact hlt)) := List.getElem?_eq_getElem _
        generalize a[k]'(by rw [HL1.out]; exact hlt) = x at e1
        generalize b[k]'(by rw [HL2.out]; exact hlt) = y at e2
        obtain ⟨b1, o1, hA1, hb1, hc1⟩ := (H1.out.below hB (Nat.le_refl _)) k _ e1
        obtain ⟨b2, o2, hA2, hb2, hc2⟩ := (H2.out.below hB (Nat.le_refl _)) k _ e2
        subst hA1
        subst hA2
        have hx : wr.cell? ⟨b1, o1 + k, none⟩ = some (.int .i64 x) := by simpa using hc1 0 _ rfl
        have hy : wr.cell? ⟨b2, o2 + k, none⟩ = some (.int .i64 y) := by simpa using hc2 0 _ rfl
        have E1 := Lib.hid e1
        have E2 := Lib.hid e2
        have hkn : (k : Int) < (n1 : Int) := by omega
        clear hc1 hc2 e1 e2
        by_cases hxy : x = y
        · subst hxy
          go_wp2_with fail
          go_quiet (fail)
          go_wp2_with fail
          go_roundg (gk - 1)
          case measure => have := HK.out; omega
          case rel => exact ⟨k + 1, by have := HK.out; omega, by go_num, by (repeat (first | exact Below.refl _ _ | assumption | refine Below.trans ?_ (Below.mono (by assumption) (by first | omega | (simp; done) | (simp; omega))) | refine Below.alloc ?_ (by first | omega | (simp; done) | (simp; omega)) _ | refine Below.setCell ?_ (by first | omega | (simp; done) | (simp; omega)) _ | refine Below.drew ?_ | refine below_drewN ?_ _)), HT.out.trans (lexLt_drop E1.out E2.out)⟩
        · have hxb : (x != y) = true := by simpa using hxy
          have hres := HT.out.trans (lexLt_at E1.out E2.out hxy)
          have HRES := Lib.hid hres
          clear hres hxy
          go_wp2_with fail
          go_quiet (fail)
          go_wp2_with fail
          go_quiet (fail)
          go_wp2_with fail
          go_ret
          rw [HRES.out]
          exact ⟨rfl, by (repeat (first | exact Below.refl _ _ | assumption | refine Below.trans ?_ (Below.mono (by assumption) (by first | omega | (simp; done) | (simp; omega))) | refine Below.alloc ?_ (by first | omega | (simp; done) | (simp; omega)) _ | refine Below.setCell ?_ (by first | omega | (simp; done) | (simp; omega)) _ | refine Below.drew ?_ | refine below_drewN ?_ _))⟩
      · have hres : lexLt a b = false := by
          rw [HT.out, List.drop_eq_nil_of_le (by rw [HL1.out]; omega)]
          rfl
        have HRES := Lib.hid hres
        clear hres
        go_wp2_with fail
        go_ret
        rw [HRES.out]
        exact ⟨rfl, by (repeat (first | exact Below.refl _ _ | assumption | refine Below.trans ?_ (Below.mono (by assumption) (by first | omega | (simp; done) | (simp; omega))) | refine Below.alloc ?_ (by first | omega | (simp; done) | (simp; omega)) _ | refine Below.setCell ?_ (by first | omega | (simp; done) | (simp; omega)) _ | refine Below.drew ?_ | refine below_drewN ?_ _))⟩
  · have hres : beforeB a b = decide (n1 < n2) := by
      unfold beforeB
      rw [if_pos (.inr (by omega)), hl1, hl2]
      simp [hz]
    rw [hres]
    have hb : (n1 != n2) = true := by simpa using hne
    have hb2 : ((n1 : Int) != (n2 : Int)) = true := by simp; omega
    clear hres h1 h2 hl1 hl2 hne
    by_cases hlt : n1 < n2
    · have hd : decide (n1 < n2) = true := by simpa using hlt
      rw [hd]
      go_enter Try.func34, Try.ntmps34
      go_wp2_with fail
      go_ret
      exact ⟨rfl, by (repeat (first | exact Below.refl _ _ | assumption | refine Below.trans ?_ (Below.mono (by assumption) (by first | omega | (simp; done) | (simp; omega))) | refine Below.alloc ?_ (by first | omega | (simp; done) | (simp; omega)) _ | refine Below.setCell ?_ (by first | omega | (simp; done) | (simp; omega)) _ | refine Below.drew ?_ | refine below_drewN ?_ _))⟩
    · have hd : decide (n1 < n2) = false := by simpa using hlt
      rw [hd]
      go_enter Try.func34, Try.ntmps34
      go_wp2_with fail
      go_ret
      exact ⟨rfl, by (repeat (first | exact Below.refl _ _ | assumption | refine Below.trans ?_ (Below.mono (by assumption) (by first | omega | (simp; done) | (simp; omega))) | refine Below.alloc ?_ (by first | omega | (simp; done) | (simp; omega)) _ | refine Below.setCell ?_ (by first | omega | (simp; done) | (simp; omega)) _ | refine Below.drew ?_ | refine below_drewN ?_ _))⟩

/-- Constraint i leads nearer from u, to w. -/
def nearer (l : List Con) (left : List Int) (u i w : Nat) : Prop := ∃ c, l[i]? = some c ∧ c.kind = 1 ∧ ((c.a = (u : Int) ∧ c.b = (w : Int)) ∨ (c.b = (u : Int) ∧ c.a = (w : Int))) ∧ left.getD w 0 = left.getD u 0 - 1

theorem next_least {l : List Con} {n t : Nat} (h : Ok l n) (ht : t < n) {u : Nat} (hu : u < n) {f : Nat} (hf : (ddL l n t).getD u 0 = (f : Int) + 1) :
    (∃ i w, nearer l (ddL l n t) u i w) ∧ ∀ i w, nearer l (ddL l n t) u i w → (∀ i' w', nearer l (ddL l n t) u i' w' → i ≤ i') → w < n ∧ (walkM (edgesM l n l.length) (ddL l n t) (f + 1) u []).2 = (i : Int) :: (walkM (edgesM l n l.length) (ddL l n t) f w []).2 := by
  have hd := dd_dist h ht
  obtain ⟨e, he, hne, hnd, hmin⟩ := nextM_spec (left := ddL l n t) hd (ok_sym h) hu (by omega)
  have he' := he
  rw [edges_getD l n u hu] at he'
  obtain ⟨c, hc, _, hk, h1⟩ := (mem_edgesUpto l l.length u e).1 he'
  have hb := ok_equal h (List.mem_of_getElem? hc) hk
  have hnr : nearer l (ddL l n t) u e.con e.to := ⟨c, hc, hk, by
    rcases h1 with ⟨x, y⟩ | ⟨x, y⟩
    · exact .inl ⟨x, by omega⟩
    · exact .inr ⟨x, by omega⟩, hnd⟩
  refine ⟨⟨_, _, hnr⟩, fun i w hi hall => ?_⟩
  have hle := hall _ _ hnr
  obtain ⟨c', hc', hk', h1', hl'⟩ := hi
  have hb' := ok_equal h (List.mem_of_getElem? hc') hk'
  have hmem : (⟨i, w⟩ : Edge) ∈ (edgesM l n l.length).getD u [] := by
    rw [edges_getD l n u hu, mem_edgesUpto]
    refine ⟨c', hc', (List.getElem?_eq_some_iff.1 hc').1, hk', ?_⟩
    simp only
    rcases h1' with ⟨x, y⟩ | ⟨x, y⟩
    · exact .inl ⟨x, by omega⟩
    · exact .inr ⟨x, by omega⟩
  have hge := hmin ⟨i, w⟩ hmem hl'
  simp only at hge
  have hei : e.con = i := by omega
  rw [hei, hc'] at hc
  cases hc
  have hew : e.to = w := by omega
  refine ⟨by omega, ?_⟩
  rw [walkM, if_pos (by omega), hne, walkM_out, hei, hew]
  simp

set_option maxHeartbeats 2000000 in
theorem way_any (n u0 t : Nat) (AL : Option Addr) (nl cL : Nat) (l : List Con) (AT : Option Addr) (cT : Nat) (w : World) (hL : RowAt 8 conCells w w.heap.size AL l) (hl : l.length = nl) (hok : Ok l n) (hu : u0 < n) (ht : t < n) (h0 : 0 ≤ dd l n t u0) (hn : n ≤ 4096) (hnl : nl ≤ 200)
    (hT : RowAt 1 (fun z => [Value.int .i64 z]) w w.heap.size AT (ddL l n t)) :
    Calls Try.prog 33 #[.slice AL nl cL, .int .i64 (u0 : Int), .slice AT n cT] w fun e w' => ∃ v, e = .returned v ∧ OwnS w' w.heap.size 3 1 v (wayM l n u0 t).length (ivs (wayM l n u0 t)) ∧ Below w.heap.size w w' := by
  obtain ⟨i0, hi0, hz0, hz1, hz2⟩ := info_parts int_info
  have hdl : (ddL l n t).length = n := (dd_dist hok ht).len
  have hTc : ∀ (w' : World), Below w.heap.size w w' → ∀ v, v < n → ∃ b off, AT = some ⟨b, off, none⟩ ∧ b < w.heap.size ∧ w'.cell? ⟨b, off + v, none⟩ = some (.int .i64 ((ddL l n t).getD v 0)) := fun w' hb v hv => by
    have hg : (ddL l n t)[v]? = some ((ddL l n t).getD v 0) := by rw [List.getD_eq_getElem?_getD, List.getElem?_eq_getElem (by omega)]; rfl
    obtain ⟨b, off, hA, hlt, hc⟩ := (hT.below hb (Nat.le_refl _)) v _ hg
    exact ⟨b, off, hA, hlt, by simpa using hc 0 _ rfl⟩
  have hd0 : dd l n t u0 = (ddL l n t).getD u0 0 := rfl
  have hnl2 := fun (u f : Nat) (hu : u < n) (hf : (ddL l n t).getD u 0 = (f : Int) + 1) => next_least hok ht hu hf
  have htop : ∀ v, (ddL l n t).getD v 0 ≤ n + 1 := fun v => dd_top hok ht v
  have hlo : ∀ v, v < n → -1 ≤ (ddL l n t).getD v 0 := fun v hv => dd_lo hok ht hv
  unfold wayM
  rw [hd0] at h0 ⊢
  generalize hleft : ddL l n t = left at *
  have hlen0 : (walkM (edgesM l n l.length) left (left.getD u0 0).toNat u0 []).2.length ≤ 5000 := by
    obtain ⟨v, es, e1, _, e3, _, _⟩ := walk_path hok (dd_dist hok ht) (dd l n t u0).toNat u0 [] hu (by show dd l n t u0 = _; omega)
    have e4 : (walkM (edgesM l n l.length) left (left.getD u0 0).toNat u0 []).2 = es := by
      rw [← hd0, ← hleft]
      unfold ddL
      rw [e1]
      simp
    rw [e4]
    have := htop u0
    omega
  have HL := Lib.hid hL
  have HLl := Lib.hid hl
  have HOK := Lib.hid hok
  have HTC := Lib.hid hTc
  have HNL := Lib.hid hnl2
  have HTOP := Lib.hid htop
  have HLO := Lib.hid hlo
  clear hL hl hok hTc hnl2 htop hlo hT hdl hd0 hleft
  generalize edgesM l n l.length = E at *
  obtain ⟨fin, hfin⟩ : ∃ fin, (walkM E left (left.getD u0 0).toNat u0 []).2 = fin := ⟨_, rfl⟩
  rw [hfin] at hlen0 ⊢
  have HFIN := Lib.hid hfin
  clear hfin
  go_enter Try.func33, Try.ntmps33
  go_wp2_with fail
  generalize hW0 : w.alloc (.cells #[] 3) = W0
  have hb0 : Below w.heap.size w W0 := by rw [← hW0]; (repeat (first | exact Below.refl _ _ | assumption | refine Below.trans ?_ (Below.mono (by assumption) (by first | omega | (simp; done) | (simp; omega))) | refine Below.alloc ?_ (by first | omega | (simp; done) | (simp; omega)) _ | refine Below.setCell ?_ (by first | omega | (simp; done) | (simp; omega)) _ | refine Below.drew ?_ | refine below_drewN ?_ _))
  have hs0 : w.heap.size < W0.heap.size := by rw [← hW0]; simp
  have hown0 : OwnS W0 w.heap.size 3 1 (.slice (some ⟨w.heap.size, 0, none⟩) 0 0) 0 [] := by
    rw [← hW0]
    exact OwnS.block (n := 0) (cur := #[]) (Nat.le_refl _) (heap_alloc_new w _) (by simp [maxLen]) rfl
  have HO0 := Lib.hid hown0
  clear hW0 hown0
  go_loopg [7, 8] (left.getD u0 0).toNat (fun gk s7 s8 wr => ∃ (at_ : Nat) (outl : List Int), at_ < n ∧ s8 = .int .i64 (at_ : Int) ∧ left.getD at_ 0 = (gk : Int) ∧ OwnS wr w.heap.size 3 1 s7 outl.length (ivs outl) ∧ outl ++ (walkM E left gk at_ []).2 = fin ∧ Below w.heap.size w wr)
  case atStart => exact ⟨u0, [], hu, rfl, by omega, HO0.out, by simpa using HFIN.out, hb0⟩
  case round =>
    obtain ⟨at_, outl, hat, rfl, hdat, hO, hpre, hB⟩ := hrel
    obtain ⟨tb, toff, hA, htb, hcat⟩ := HTC.out wr hB at_ hat
    subst hA
    rw [hdat] at hcat
    have HO := Lib.hid hO
    have HPRE := Lib.hid hpre
    have HDAT := Lib.hid hdat
    have hBs := hB.size
    have hati : (at_ : Int) < (n : Int) := by omega
    have hol : outl.length ≤ 5000 := by
      have := congrArg List.length hpre
      rw [List.length_append] at this
      omega
    clear hO hpre hdat
    by_cases hp : 0 < gk
    · obtain ⟨gv, rfl⟩ : ∃ gv, gk = gv + 1 := ⟨gk - 1, by omega⟩
      obtain ⟨hex, hnext⟩ := HNL.out at_ gv hat (by rw [HDAT.out]; omega)
      have HEX := Lib.hid hex
      have HNEXT := Lib.hid hnext
      have hgtop : (gv : Int) ≤ 5000 := by
        have h1 := HTOP.out at_
        rw [HDAT.out] at h1
        omega
      clear hex hnext
      obtain ⟨wo, rfl⟩ : ∃ wo : World, wo = wr := ⟨_, rfl⟩
      go_wp2_with fail
      clear hcat
      go_loopg [7, 8, 9] nl (fun gk s7 s8 s9 wr => ∃ k : Nat, k + gk = nl ∧ s9 = .int .i64 k ∧ s7 = u7 ∧ s8 = .int .i64 (at_ : Int) ∧ (∀ i w', i < k → ¬ nearer l left at_ i w') ∧ Below wo.heap.size wo wr)
      case atStart => exact ⟨0, by omega, rfl, rfl, rfl, fun i w' hi => by omega, Below.refl _ _⟩
      case round =>
        obtain ⟨k, hk, rfl, rfl, rfl, hno, hB2⟩ := hrel
        have hk' : k ≤ nl := by omega
        have HK := Lib.hid hk
        have HNO := Lib.hid hno
        have hB2s := hB2.size
        have hBw : Below w.heap.size w wr := hB.trans (hB2.mono hBs)
        clear hk hno
        by_cases hlt : k < nl
        · have hkl : k < l.length := by rw [HLl.out]; exact hlt
          have hlk : l[k]? = some l[k] := List.getElem?_eq_getElem hkl
          obtain ⟨lb, loff, hA, hlb, hlc⟩ := (HL.out.below hBw (Nat.le_refl _)) k _ hlk
          subst hA
          have hmem := List.mem_of_getElem? hlk
          have HLK := Lib.hid hlk
          have hki : (k : Int) < (nl : Int) := by omega
          clear hlk
          generalize l[k] = c at *
          have hc0 : wr.cell? ⟨lb, loff + k * 8, none⟩ = some (.int .i64 c.kind) := hlc 0 _ rfl
          have hc1 : wr.cell? ⟨lb, loff + k * 8 + 1, none⟩ = some (.int .i64 c.a) := hlc 1 _ rfl
          have hc2 : wr.cell? ⟨lb, loff + k * 8 + 2, none⟩ = some (.int .i64 c.b) := hlc 2 _ rfl
          clear hlc
          by_cases hk1 : c.kind = 1
          · have hbd := ok_equal HOK.out hmem hk1
            have hkb : (c.kind != 1) = false := by simp [hk1]
            have HK1 := Lib.hid hk1
            have htr : (∃ y : Nat, y < n ∧ (c.a = (at_ : Int) ∧ c.b = (y : Int) ∨ (c.a ≠ (at_ : Int) ∧ c.b = (at_ : Int) ∧ c.a = (y : Int)))) ∨ (c.a ≠ (at_ : Int) ∧ c.b ≠ (at_ : Int)) := by
              by_cases e1 : c.a = (at_ : Int)
              · exact .inl ⟨c.b.toNat, by omega, .inl ⟨e1, by omega⟩⟩
              · by_cases e2 : c.b = (at_ : Int)
                · exact .inl ⟨c.a.toNat, by omega, .inr ⟨e1, e2, by omega⟩⟩
                · exact .inr ⟨e1, e2⟩
            clear hk1 hbd
            rcases htr with ⟨y, hy, hcase⟩ | ⟨e1, e2⟩
            · have hnr : left.getD y 0 = left.getD at_ 0 - 1 → nearer l left at_ k y := fun hx => ⟨c, HLK.out, HK1.out, by
                rcases hcase with ⟨a1, a2⟩ | ⟨_, a2, a3⟩
                · exact .inl ⟨a1, a2⟩
                · exact .inr ⟨a2, a3⟩, hx⟩
              have huq : ∀ y', nearer l left at_ k y' → y' = y := fun y' hx => by
                obtain ⟨c', hc', _, h4, _⟩ := hx
                rw [HLK.out] at hc'
                cases hc'
                rcases hcase with ⟨a1, a2⟩ | ⟨_, a2, a3⟩ <;> omega
              have HNR := Lib.hid hnr
              have HUQ := Lib.hid huq
              obtain ⟨tb', toff', hA', _, hcy⟩ := HTC.out wr hBw y hy
              cases hA'
              obtain ⟨tb', toff', hA', _, hcat2⟩ := HTC.out wr hBw at_ hat
              cases hA'
              rw [HDAT.out] at hcat2
              obtain ⟨dy, hdy⟩ : ∃ dy, left.getD y 0 = dy := ⟨_, rfl⟩
              rw [hdy] at hcy
              have HDY := Lib.hid hdy
              have hdylo := HLO.out y hy
              have hdyhi := HTOP.out y
              rw [hdy] at hdylo hdyhi
              have hyi : (y : Int) < (n : Int) := by omega
              clear hnr huq hdy
              by_cases hgood : dy = (gv : Int)
              · have hgb : (dy == (gv : Int)) = true := by simpa using hgood
                have hgb2 : (dy == ((gv + 1 : Nat) : Int) - 1) = true := by simp; omega
                have hnear := HNR.out (by rw [HDY.out, HDAT.out]; omega)
                have hfin := HNEXT.out k y hnear (fun i' w' hx => by
                  rcases Nat.lt_or_ge i' k with h1 | h1
                  · exact absurd hx (HNO.out i' w' h1)
                  · exact h1)
                have HFN := Lib.hid hfin
                have hO2 := HO.out.below hB2 (fun g hg => (HO.out.lt g hg).2)
                have HO2 := Lib.hid hO2
                have hdyg := HDY.out
                rw [hgood] at hdyg
                have HDYG := Lib.hid hdyg
                clear hnear hfin hO2 hgood hdyg
                rcases hcase with ⟨a1, a2⟩ | ⟨a0, a2, a3⟩
                · have hb1 : (c.a == (at_ : Int)) = true := by simp [a1]
                  rw [a2] at hc2
                  clear a1 a2
                  go_wp2_with fail
                  go_quiet (fail)
                  go_wp2_with (at_builtin; go_must (refine wpList_append_S _ rfl (.tmp 68) (.tmp 70) _ rfl w.heap.size 3 i0 _ 1 8 Try.underlying33 hi0 hz0 hz1 hz2 rfl u7 outl.length (ivs outl) rfl (by have hO0 := HO2.out; (repeat (first | assumption | refine OwnS.drew ?_ | refine OwnS.drewN ?_ _ | refine OwnS.alloc ?_ _ | refine OwnS.setCell ?_ (by assumption) _))) ⟨wr.heap.size, 0, none⟩ 1 1 [.int .i64 (k : Int)] rfl rfl (news_one _ _ _ (by have h := Blk.cell (Blk.new (wr.drewN nq) 3 #[.int .i64 (k : Int)]) 0; exact h)) (by simp [Value.oneCell']) (by simp only [maxLen]; omega) (by omega) (by simp; omega) ?_); intro v' w3 hown hgrow hat2)
                  go_roundg gv
                  case measure => omega
                  case rel =>
                    refine ⟨y, outl ++ [(k : Int)], hy, rfl, HDYG.out, by simpa [ivs] using hown, ?_, ?_⟩
                    · rw [← HPRE.out, HFN.out.2]
                      simp
                    · exact Below.grown (by (repeat (first | exact Below.refl _ _ | assumption | refine Below.trans ?_ (Below.mono (by assumption) (by first | omega | (simp; done) | (simp; omega))) | refine Below.alloc ?_ (by first | omega | (simp; done) | (simp; omega)) _ | refine Below.setCell ?_ (by first | omega | (simp; done) | (simp; omega)) _ | refine Below.drew ?_ | refine below_drewN ?_ _))) hgrow (by simp; omega) (fun g hg => (HO.out.lt g hg).1)
                · have hb1 : (c.a == (at_ : Int)) = false := by simpa using a0
                  have hb2 : (c.b == (at_ : Int)) = true := by simp [a2]
                  rw [a3] at hc1 hb1
                  clear a0 a2 a3
                  go_wp2_with fail
                  go_quiet (fail)
                  go_wp2_with (at_builtin; go_must (refine wpList_append_S _ rfl (.tmp 68) (.tmp 70) _ rfl w.heap.size 3 i0 _ 1 8 Try.underlying33 hi0 hz0 hz1 hz2 rfl u7 outl.length (ivs outl) rfl (by have hO0 := HO2.out; (repeat (first | assumption | refine OwnS.drew ?_ | refine OwnS.drewN ?_ _ | refine OwnS.alloc ?_ _ | refine OwnS.setCell ?_ (by assumption) _))) ⟨wr.heap.size, 0, none⟩ 1 1 [.int .i64 (k : Int)] rfl rfl (news_one _ _ _ (by have h := Blk.cell (Blk.new (wr.drewN nq) 3 #[.int .i64 (k : Int)]) 0; exact h)) (by simp [Value.oneCell']) (by simp only [maxLen]; omega) (by omega) (by simp; omega) ?_); intro v' w3 hown hgrow hat2)
                  go_roundg gv
                  case measure => omega
                  case rel =>
                    refine ⟨y, outl ++ [(k : Int)], hy, rfl, HDYG.out, by simpa [ivs] using hown, ?_, ?_⟩
                    · rw [← HPRE.out, HFN.out.2]
                      simp
                    · exact Below.grown (by (repeat (first | exact Below.refl _ _ | assumption | refine Below.trans ?_ (Below.mono (by assumption) (by first | omega | (simp; done) | (simp; omega))) | refine Below.alloc ?_ (by first | omega | (simp; done) | (simp; omega)) _ | refine Below.setCell ?_ (by first | omega | (simp; done) | (simp; omega)) _ | refine Below.drew ?_ | refine below_drewN ?_ _))) hgrow (by simp; omega) (fun g hg => (HO.out.lt g hg).1)
              · have hgb : (dy == (gv : Int)) = false := by simpa using hgood
                have hgb2 : (dy == ((gv + 1 : Nat) : Int) - 1) = false := by simp; omega
                have hbad : ∀ w', ¬ nearer l left at_ k w' := fun w' hx => by
                  have e := HUQ.out w' hx
                  subst e
                  obtain ⟨_, _, _, _, h5⟩ := hx
                  rw [HDY.out, HDAT.out] at h5
                  omega
                have HBAD := Lib.hid hbad
                clear hbad hgood
                rcases hcase with ⟨a1, a2⟩ | ⟨a0, a2, a3⟩
                · have hb1 : (c.a == (at_ : Int)) = true := by simp [a1]
                  rw [a2] at hc2
                  clear a1 a2
                  go_wp2_with fail
                  go_quiet (fail)
                  go_wp2_with fail
                  go_roundg (gk - 1)
                  case measure => have := HK.out; omega
                  case rel =>
                    refine ⟨k + 1, by have := HK.out; omega, by go_num, rfl, rfl, fun i w' hi hx => ?_, by (repeat (first | exact Below.refl _ _ | assumption | refine Below.trans ?_ (Below.mono (by assumption) (by first | omega | (simp; done) | (simp; omega))) | refine Below.alloc ?_ (by first | omega | (simp; done) | (simp; omega)) _ | refine Below.setCell ?_ (by first | omega | (simp; done) | (simp; omega)) _ | refine Below.drew ?_ | refine below_drewN ?_ _))⟩
                    by_cases hik : i = k
                    · subst hik
                      exact HBAD.out w' hx
                    · exact HNO.out i w' (by omega) hx
                · have hb1 : (c.a == (at_ : Int)) = false := by simpa using a0
                  have hb2 : (c.b == (at_ : Int)) = true := by simp [a2]
                  rw [a3] at hc1 hb1
                  clear a0 a2 a3
                  go_wp2_with fail
                  go_quiet (fail)
                  go_wp2_with fail
                  go_roundg (gk - 1)
                  case measure => have := HK.out; omega
                  case rel =>
                    refine ⟨k + 1, by have := HK.out; omega, by go_num, rfl, rfl, fun i w' hi hx => ?_, by (repeat (first | exact Below.refl _ _ | assumption | refine Below.trans ?_ (Below.mono (by assumption) (by first | omega | (simp; done) | (simp; omega))) | refine Below.alloc ?_ (by first | omega | (simp; done) | (simp; omega)) _ | refine Below.setCell ?_ (by first | omega | (simp; done) | (simp; omega)) _ | refine Below.drew ?_ | refine below_drewN ?_ _))⟩
                    by_cases hik : i = k
                    · subst hik
                      exact HBAD.out w' hx
                    · exact HNO.out i w' (by omega) hx
            · have hb1 : (c.a == (at_ : Int)) = false := by simpa using e1
              have hb2 : (c.b == (at_ : Int)) = false := by simpa using e2
              have hbad : ∀ w', ¬ nearer l left at_ k w' := fun w' hx => by
                obtain ⟨c', hc', _, h4, _⟩ := hx
                rw [HLK.out] at hc'
                cases hc'
                omega
              have HBAD := Lib.hid hbad
              clear hbad e1 e2
              go_wp2_with fail
              go_quiet (fail)
              go_wp2_with fail
              go_roundg (gk - 1)
              case measure => have := HK.out; omega
              case rel =>
                refine ⟨k + 1, by have := HK.out; omega, by go_num, rfl, rfl, fun i w' hi hx => ?_, by (repeat (first | exact Below.refl _ _ | assumption | refine Below.trans ?_ (Below.mono (by assumption) (by first | omega | (simp; done) | (simp; omega))) | refine Below.alloc ?_ (by first | omega | (simp; done) | (simp; omega)) _ | refine Below.setCell ?_ (by first | omega | (simp; done) | (simp; omega)) _ | refine Below.drew ?_ | refine below_drewN ?_ _))⟩
                by_cases hik : i = k
                · subst hik
                  exact HBAD.out w' hx
                · exact HNO.out i w' (by omega) hx
          · have hkb : (c.kind != 1) = true := by simpa using hk1
            have hbad : ∀ w', ¬ nearer l left at_ k w' := fun w' hx => by
              obtain ⟨c', hc', h3, _, _⟩ := hx
              rw [HLK.out] at hc'
              cases hc'
              exact hk1 h3
            have HBAD := Lib.hid hbad
            clear hbad hk1
            go_wp2_with fail
            go_roundg (gk - 1)
            case measure => have := HK.out; omega
            case rel =>
              refine ⟨k + 1, by have := HK.out; omega, by go_num, rfl, rfl, fun i w' hi hx => ?_, by (repeat (first | exact Below.refl _ _ | assumption | refine Below.trans ?_ (Below.mono (by assumption) (by first | omega | (simp; done) | (simp; omega))) | refine Below.alloc ?_ (by first | omega | (simp; done) | (simp; omega)) _ | refine Below.setCell ?_ (by first | omega | (simp; done) | (simp; omega)) _ | refine Below.drew ?_ | refine below_drewN ?_ _))⟩
              by_cases hik : i = k
              · subst hik
                exact HBAD.out w' hx
              · exact HNO.out i w' (by omega) hx
        · exfalso
          obtain ⟨i, w', hx⟩ := HEX.out
          obtain ⟨c', hc', _⟩ := hx
          have h1 := (List.getElem?_eq_some_iff.1 hc').1
          rw [HLl.out] at h1
          obtain ⟨i, w', hx⟩ := HEX.out
          have h2 : i < l.length := by
            obtain ⟨c'', hc'', _⟩ := hx
            exact (List.getElem?_eq_some_iff.1 hc'').1
          rw [HLl.out] at h2
          exact HNO.out i w' (by omega) hx
    · have h00 : gk = 0 := by omega
      have hfo : outl = fin := by
        have h := HPRE.out
        rw [h00] at h
        simpa [walkM] using h
      subst h00
      have HFO := Lib.hid hfo
      have hcat0 : wr.cell? ⟨tb, toff + at_, none⟩ = some (.int .i64 0) := by simpa using hcat
      clear hfo hcat
      go_wp2_with fail
      go_ret
      rw [← HFO.out]
      exact ⟨_, rfl, HO.out, hB⟩

end Go.Proofs.Ytpdimehoepfgaaa
