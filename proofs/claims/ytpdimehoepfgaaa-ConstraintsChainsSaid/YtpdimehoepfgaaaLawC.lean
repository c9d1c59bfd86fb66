/- ConstraintsChains, walked. -/
import Derived.Test.YtpdimehoepfgaaaIsCh
import Derived.Test.YtpdimehoepfgaaaPl6
import Derived.Test.YtpdimehoepfgaaaHeldG
namespace Go.Proofs.Ytpdimehoepfgaaa
open Go.RowKit

set_option maxHeartbeats 4000000 in
set_option maxRecDepth 100000 in
theorem lawChains_any (vert : Int) (AL : Option Addr) (nl cL : Nat) (l : List Con) (w : World) (hL : RowAt 8 conCells w w.heap.size AL l) (hl : l.length = nl) (hmx : nl ≤ maxLen) :
    Calls Try.prog 4 #[.int .i64 vert, .slice AL nl cL] w fun e w' => e = .returned (.bool true) ∧ Below w.heap.size w w' := by
  obtain ⟨c0, hc0, hcz, hcs, hcb⟩ := info_parts con_info
  have hfew := few_any vert AL nl cL w hmx
  have HL := Lib.hid hL
  have HLl := Lib.hid hl
  have HFEW := Lib.hid hfew
  unfold maxLen at hmx
  clear hL hl hfew
  go_enter Try.func4, Try.ntmps4
  go_wp2_with fail
  refine HFEW.out.mono ?_
  rintro e w1 ⟨rfl, rfl⟩
  obtain ⟨fb, hfb⟩ : ∃ fb, fewB vert nl = fb := ⟨_, rfl⟩
  rw [hfb]
  have HFB := Lib.hid hfb
  clear hfb HFEW
  cases fb
  · go_wp2_with fail
    refine (awake_any _).mono ?_
    rintro e w1 ⟨rfl, hb⟩
    go_wp2_with fail
    go_ret
    exact ⟨rfl, hb⟩
  have hn80 : nl ≤ 80 := by
    have := HFB.out
    simp [fewB] at this
    exact this.1
  have hS1 := fun (w' : World) (h : RowAt 8 conCells w' w'.heap.size AL l) => Solve_all vert AL nl cL l w' h HLl.out (by omega)
  have hF1 := fun (w' : World) (h : RowAt 8 conCells w' w'.heap.size AL l) => Fits_any vert AL nl cL l w' h HLl.out (by omega)
  have hln := solve_lens vert l
  have hv60 : solveErr vert l = 0 → vert ≤ 60 := fun h => by
    have h1 := err_zero h
    have h2 := HFB.out
    simp [fewB] at h2
    omega
  have hCF := fun h0 => @chain_facts vert l h0 (hv60 h0)
  have hKF := fun h0 => @con_facts vert l h0
  have hTL := @tys_len vert l
  have hTN := @tys_none vert l
  have hv0 : solveErr vert l = 0 → 0 ≤ vert := fun h => (err_zero h).1
  generalize solveErr vert l = er at hS1 hF1 hv60 hCF hKF hTL hTN hv0
  generalize solveTys vert l = T1 at *
  generalize solveChs vert l = X1 at *
  have HS1 := Lib.hid hS1
  have HF1 := Lib.hid hF1
  obtain ⟨hlt1, hlx1⟩ := hln
  clear hS1 hF1
  by_cases her : er = 0
  · subst her
    have hv6 := hv60 rfl
    have hvp := hv0 rfl
    have hTl := hTL rfl
    have HCF := Lib.hid (hCF rfl)
    have HKF := Lib.hid (hKF rfl)
    clear hv60 hv0 hTL hTN hCF hKF
    obtain ⟨n, rfl⟩ : ∃ n : Nat, vert = (n : Int) := ⟨vert.toNat, by omega⟩
    have hTn : T1.length = n := by omega
    have HTN := Lib.hid hTn
    clear hTl
    go_wp2_with fail
    refine (HS1.out w HL.out).mono ?_
    rintro e w2 ⟨A1, c1, A2, c2, rfl, hT1, hC1, hb2⟩
    rw [HTN.out]
    obtain ⟨NX, hNX⟩ : ∃ NX, X1.length = NX := ⟨_, rfl⟩
    rw [hNX]
    rw [hNX] at hlx1
    have HNX := Lib.hid hNX
    have HT1 := Lib.hid hT1
    have HC1 := Lib.hid hC1
    clear hNX hT1 hC1
    go_wp2_with fail
    refine (HF1.out w2 (HL.out.later hb2)).mono ?_
    rintro e w3 ⟨rfl, hb3⟩
    have hB3 : Below w.heap.size w w3 := hb2.trans (hb3.mono hb2.size)
    have HT3 := Lib.hid (HT1.out.later hb3)
    have HC3 := Lib.hid (HC1.out.later hb3)
    have hbb : ((0 : Int) == 0) = true := rfl
    clear HT1 HC1 hb2 hb3
    go_wp2_with fail
    go_loopg [53] NX (fun gk s wr => ∃ q : Nat, q + gk = NX ∧ s = .int .i64 q ∧ Below w3.heap.size w3 wr)
    case atStart => exact ⟨0, by omega, rfl, Below.refl _ _⟩
    case round =>
      obtain ⟨q, hq, rfl, hBq⟩ := hrel
      have hq' : q ≤ NX := by omega
      have HQ := Lib.hid hq
      have hBqs := hBq.size
      have hBw : Below w.heap.size w wr := hB3.trans (hBq.mono hB3.size)
      have hBws := hBw.size
      clear hq
      by_cases hlt : q < NX
      ·
        have hq1 : q < X1.length := by rw [HNX.out]; exact hlt
        have hqx : X1[q]? = some X1[q] := List.getElem?_eq_getElem hq1
        obtain ⟨i, j, c, c', es, hg, hz, han, hch100, he2, ch2, hc2, hcl2⟩ := HCF.out _ (List.getElem_mem hq1)
        obtain ⟨b1, o1, Ai, ci, hA, hbb1, hcc, hle, hrow⟩ := (HC3.out.below hBq (Nat.le_refl _)) q _ hqx
        generalize X1[q] = ch at *
        subst hA
        have hrow' := hrow.mono hBqs
        have hLr := (HL.out.below hBw (Nat.le_refl _)).mono hBws
        have hisc := isChain_any AL nl cL l Ai ci ch i j c c' es wr hLr HLl.out hrow' hle hg (by omega)
        have hqi : (q : Int) < (NX : Int) := by omega
        -- what is read
        obtain ⟨cb, coff, hA, hcbb, hcell0⟩ := hrow' 0 (i : Int) (by rw [hg.shape]; rfl)
        subst hA
        have hx0 : wr.cell? ⟨cb, coff, none⟩ = some (.int .i64 (i : Int)) := by simpa using hcell0 0 _ rfl
        obtain ⟨lb, loff, hA, hlb, hlc⟩ := hLr i c hg.first
        subst hA
        have hil : (i : Int) < (nl : Int) := by have := (List.getElem?_eq_some_iff.1 hg.first).1; rw [HLl.out] at this; omega
        obtain ⟨u0, hu0⟩ : ∃ u0, c.a.toNat = u0 := ⟨_, rfl⟩
        have hua : c.a = (u0 : Int) := by have := hg.a0; omega
        rw [hu0] at hz han
        have hla : wr.cell? ⟨lb, loff + i * 8 + 1, none⟩ = some (.int .i64 (u0 : Int)) := by rw [← hua]; exact hlc 1 _ rfl
        have hun : (u0 : Int) < (n : Int) := by simp at han; omega
        obtain ⟨tb, toff, hA, htb, htc⟩ := (HT3.out.below hBq (Nat.le_refl _)) u0 _ hz
        subst hA
        have ht0 : wr.cell? ⟨tb, toff + u0 * 3, none⟩ = some (.int .i64 0) := htc 0 _ rfl
        have ht1 : wr.cell? ⟨tb, toff + u0 * 3 + 1, none⟩ = some (.int .i64 0) := htc 1 _ rfl
        have ht2 : wr.cell? ⟨tb, toff + u0 * 3 + 2, none⟩ = some (.string ⟨#[]⟩) := htc 2 _ rfl
        have hlbs : lb < wr.heap.size := hlb
        have htbs : tb < wr.heap.size := by omega
        have hbbs : b1 < wr.heap.size := by omega
        have hcbs : cb < wr.heap.size := hcbb
        have hpos : 0 < ch.length := by rw [hg.shape]; simp
        have hposi : (0 : Int) < (ch.length : Int) := by omega
        have hch1 : ch.length ≤ 1000 := by omega
        have hrange := good_range hg
        have HISC := Lib.hid hisc
        have HROW := Lib.hid hrow'
        have HLR := Lib.hid hLr
        have HRG := Lib.hid hrange
        have HE2 := Lib.hid he2
        have HC2 := Lib.hid hc2
        have HCL2 := Lib.hid hcl2
        have hnz : ∀ w' : World, (binOp .neq 23 (.agg #[.int .i64 0, .int .i64 0, .string ⟨#[]⟩]) (.agg #[.int .i64 0, .int .i64 0, .string ⟨#[]⟩])).run Try.prog w' = .ok (.bool false) w' := fun w' => by
          have := run_neTy 0 0 ⟨#[]⟩ 0 0 ⟨#[]⟩ w'
          rw [show eqTy 0 0 ⟨#[]⟩ 0 0 ⟨#[]⟩ = true from eqT_refl zeroTy] at this
          exact this
        clear hisc hrow hrow' hLr hrange he2 hc2 hcl2 hcell0 hlc htc hz hu0 hua hg hqx hle
        go_wp2_with fail
        refine HISC.out.mono ?_
        rintro e w4 ⟨rfl, hb4⟩
        obtain ⟨hcc4, hff4⟩ := bcell hb4
        have hz4 := hb4.size
        go_wp2_with fail
        clear hcc4 hff4 hx0 hla ht0 ht1 ht2 hnz hcc
        have hB4w : Below w.heap.size w w4 := hBw.trans (hb4.mono hBws)
        have hB4q : Below w3.heap.size w3 w4 := hBq.trans (hb4.mono hBqs)
        have HRW4 := Lib.hid (HROW.out.later hb4)
        have HLR4 := Lib.hid (HLR.out.later hb4)
        clear HROW HLR HISC
        obtain ⟨wo, rfl⟩ : ∃ wo : World, wo = wr := ⟨_, rfl⟩
        obtain ⟨go, rfl⟩ : ∃ go : Nat, go = gk := ⟨_, rfl⟩
        go_loopg [10, 77] ch.length (fun gk s10 s77 wr => ∃ q2 : Nat, q2 + gk = ch.length ∧ s77 = .int .i64 q2 ∧ OwnS wr w4.heap.size 36 8 s10 q2 (((ch.take q2).map (getC l)).flatMap conCells) ∧ Below w4.heap.size w4 wr)
        case atStart => exact ⟨0, by omega, rfl, OwnS.nil _ _ _ _, Below.refl _ _⟩
        case round =>
          obtain ⟨q2, hq2, rfl, hO, hB2⟩ := hrel
          have hq2' : q2 ≤ ch.length := by omega
          have HQ2 := Lib.hid hq2
          have HO := Lib.hid hO
          have hB2s := hB2.size
          clear hq2 hO
          by_cases hlt2 : q2 < ch.length
          · have hc2 : ch[q2]? = some ch[q2] := List.getElem?_eq_getElem hlt2
            obtain ⟨x, hx, hxl⟩ := HRG.out _ (List.getElem_mem hlt2)
            obtain ⟨cb', coff', hA', _, hcell⟩ := (HRW4.out.below hB2 (Nat.le_refl _)) q2 _ hc2
            cases hA'
            have hcx : wr.cell? ⟨cb, coff + q2, none⟩ = some (.int .i64 (x : Int)) := by rw [← hx]; simpa using hcell 0 _ rfl
            have hlx : l[x]? = some l[x] := List.getElem?_eq_getElem hxl
            obtain ⟨lb', loff', hA', _, hlc⟩ := (HLR4.out.below hB2 (Nat.le_refl _)) x _ hlx
            cases hA'
            have hgc : getC l ch[q2] = l[x] := by rw [hx]; exact getC_of hlx
            have htk : (ch.take (q2 + 1)).map (getC l) = (ch.take q2).map (getC l) ++ [l[x]] := by rw [take_snoc' _ _ _ hc2, List.map_append, List.map_cons, hgc]; rfl
            have HTK := Lib.hid htk
            have hxn : (x : Int) < (nl : Int) := by rw [HLl.out] at hxl; omega
            clear htk hgc hc2 hcell hlx hx
            generalize l[x] = d at *
            have hl0 : wr.cell? ⟨lb, loff + x * 8, none⟩ = some (.int .i64 d.kind) := hlc 0 _ rfl
            have hl1 : wr.cell? ⟨lb, loff + x * 8 + 1, none⟩ = some (.int .i64 d.a) := hlc 1 _ rfl
            have hl2 : wr.cell? ⟨lb, loff + x * 8 + 2, none⟩ = some (.int .i64 d.b) := hlc 2 _ rfl
            have hl3 : wr.cell? ⟨lb, loff + x * 8 + 3, none⟩ = some (.int .i64 d.tk) := hlc 3 _ rfl
            have hl4 : wr.cell? ⟨lb, loff + x * 8 + 4, none⟩ = some (.int .i64 d.tl) := hlc 4 _ rfl
            have hl5 : wr.cell? ⟨lb, loff + x * 8 + 5, none⟩ = some (.string d.tr) := hlc 5 _ rfl
            have hl6 : wr.cell? ⟨lb, loff + x * 8 + 6, none⟩ = some (.int .i64 d.at_) := hlc 6 _ rfl
            have hl7 : wr.cell? ⟨lb, loff + x * 8 + 7, none⟩ = some (.int .i64 d.end_) := hlc 7 _ rfl
            have hnews : ∀ j u, (conCells d)[j]? = some u → (wr.alloc (.cells #[.int .i64 d.kind, .int .i64 d.a, .int .i64 d.b, .int .i64 d.tk, .int .i64 d.tl, .string d.tr, .int .i64 d.at_, .int .i64 d.end_] 36)).cell? ((⟨wr.heap.size, 0, none⟩ : Addr).add j) = some u := fun j u hj => by
              rw [Addr.add_lit, Nat.zero_add, Blk.cell (Blk.new wr 36 _)]
              simpa [conCells] using hj
            have HNEWS := Lib.hid hnews
            have hq2i : (q2 : Int) < (ch.length : Int) := by omega
            clear hlc hnews
            go_wp2_with (at_builtin; go_must (refine wpList_append_S _ rfl (.tmp 81) (.tmp 86) _ rfl w4.heap.size 36 c0 _ 8 72 Try.underlying26 hc0 hcz hcs hcb rfl u10 q2 _ rfl (by exact HO.out.alloc _) ⟨wr.heap.size, 0, none⟩ 1 1 (conCells d) rfl rfl HNEWS.out (by simp [conCells, Value.oneCell']) (by simp only [maxLen]; omega) (by omega) (by simp; omega) ?_); intro v' w5 hown hgrow hat)
            go_roundg (gk - 1)
            case measure => have := HQ2.out; omega
            case rel =>
              refine ⟨q2 + 1, by have := HQ2.out; omega, by go_num, ?_, Below.grown (by (repeat (first | exact Below.refl _ _ | assumption | refine Below.trans ?_ (Below.mono (by assumption) (by first | omega | (simp; done) | (simp; omega))) | refine Below.alloc ?_ (by first | omega | (simp; done) | (simp; omega)) _ | refine Below.setCell ?_ (by first | omega | (simp; done) | (simp; omega)) _ | refine Below.drew ?_ | refine below_drewN ?_ _))) hgrow (by simp; omega) (fun g hg => (HO.out.lt g hg).1)⟩
              rw [HTK.out, List.flatMap_append]
              simpa using hown
          · have hqe : ch.length = q2 := by omega
            have hO2 := HO.out
            rw [← hqe, List.take_length] at hO2
            obtain ⟨A10, c10, hv10, -, -⟩ := hO2.shape
            have hmapl : (ch.map (getC l)).length = ch.length := List.length_map _
            have hv10' : u10 = .slice A10 ch.length c10 := hv10
            subst hv10'
            have hrow10 := hO2.rowAt (l := ch.map (getC l)) rfl rfl (fun c _ => rfl) hmapl
            have hS2 := Solve_all (n : Int) A10 ch.length c10 _ wr hrow10 hmapl (by omega)
            rw [HE2.out, HC2.out] at hS2
            have HS2 := Lib.hid hS2
            clear hS2 hrow10 hO2 hmapl hqe
            go_wp2_with fail
            refine HS2.out.mono ?_
            rintro e w6 ⟨A5, c5, A6, c6, rfl, -, hC6, hb6⟩
            obtain ⟨b6, o6, Ai6, ci6, hA6, hbb6, hcell6, -, -⟩ := hC6 0 ch2 rfl
            subst hA6
            rw [HCL2.out] at hcell6
            simp only [Nat.add_zero] at hcell6
            simp only [List.length_cons, List.length_nil, Nat.zero_add]
            clear hC6
            go_wp2_with fail
            go_roundg (go - 1)
            case measure => have := HQ.out; omega
            case rel =>
              refine ⟨q + 1, by have := HQ.out; omega, by go_num, ?_⟩
              have h1 := hB4q.trans (hB2.mono hB4q.size)
              exact h1.trans (hb6.mono h1.size)
      · go_wp2_with fail
        obtain ⟨wo, rfl⟩ : ∃ wo : World, wo = wr := ⟨_, rfl⟩
        obtain ⟨go, rfl⟩ : ∃ go : Nat, go = gk := ⟨_, rfl⟩
        go_loopg [115] nl (fun gk s wr => ∃ q : Nat, q + gk = nl ∧ s = .int .i64 q ∧ Below wo.heap.size wo wr)
        case atStart => exact ⟨0, by omega, rfl, Below.refl _ _⟩
        case round =>
          obtain ⟨q3, hq3, rfl, hB5⟩ := hrel
          have hq3' : q3 ≤ nl := by omega
          have HQ3 := Lib.hid hq3
          have hB5s := hB5.size
          have hB5w : Below w.heap.size w wr := hBw.trans (hB5.mono hBws)
          have hB5q : Below w3.heap.size w3 wr := hBq.trans (hB5.mono hBqs)
          clear hq3
          by_cases hlt3 : q3 < nl
          · have hql : q3 < l.length := by rw [HLl.out]; exact hlt3
            have hlq : l[q3]? = some l[q3] := List.getElem?_eq_getElem hql
            obtain ⟨lb, loff, hA, hlb, hlc⟩ := (HL.out.below hB5w (Nat.le_refl _)) q3 _ hlq
            subst hA
            have hkf := HKF.out _ (List.getElem_mem hql)
            have hqi : (q3 : Int) < (nl : Int) := by omega
            clear hlq
            generalize l[q3] = c at *
            have hl3 : wr.cell? ⟨lb, loff + q3 * 8 + 3, none⟩ = some (.int .i64 c.tk) := hlc 3 _ rfl
            have hl4 : wr.cell? ⟨lb, loff + q3 * 8 + 4, none⟩ = some (.int .i64 c.tl) := hlc 4 _ rfl
            have hl5 : wr.cell? ⟨lb, loff + q3 * 8 + 5, none⟩ = some (.string c.tr) := hlc 5 _ rfl
            have hl6 : wr.cell? ⟨lb, loff + q3 * 8 + 6, none⟩ = some (.int .i64 c.at_) := hlc 6 _ rfl
            have hl7 : wr.cell? ⟨lb, loff + q3 * 8 + 7, none⟩ = some (.int .i64 c.end_) := hlc 7 _ rfl
            have hlbs : lb < wr.heap.size := by have := hB5w.size; omega
            rcases hkf with ⟨hk, ha0, han, hb0, hbn, ty, htu, htv⟩ | ⟨hk, ha0, han, ty, htu, hcase⟩
            · obtain ⟨u, hu⟩ : ∃ u, c.a.toNat = u := ⟨_, rfl⟩
              obtain ⟨v, hv⟩ : ∃ v, c.b.toNat = v := ⟨_, rfl⟩
              have hua : c.a = (u : Int) := by omega
              have hvb : c.b = (v : Int) := by omega
              rw [hu] at htu
              rw [hv] at htv
              have hl0 : wr.cell? ⟨lb, loff + q3 * 8, none⟩ = some (.int .i64 1) := by rw [← hk]; exact hlc 0 _ rfl
              have hl1 : wr.cell? ⟨lb, loff + q3 * 8 + 1, none⟩ = some (.int .i64 (u : Int)) := by rw [← hua]; exact hlc 1 _ rfl
              have hl2 : wr.cell? ⟨lb, loff + q3 * 8 + 2, none⟩ = some (.int .i64 (v : Int)) := by rw [← hvb]; exact hlc 2 _ rfl
              obtain ⟨tb, toff, hA, htb, htc⟩ := (HT3.out.below hB5q (Nat.le_refl _)) u _ htu
              subst hA
              obtain ⟨tb', toff', hA', _, htc'⟩ := (HT3.out.below hB5q (Nat.le_refl _)) v _ htv
              cases hA'
              have ht0 : wr.cell? ⟨tb, toff + u * 3, none⟩ = some (.int .i64 ty.k) := htc 0 _ rfl
              have ht1 : wr.cell? ⟨tb, toff + u * 3 + 1, none⟩ = some (.int .i64 ty.n) := htc 1 _ rfl
              have ht2 : wr.cell? ⟨tb, toff + u * 3 + 2, none⟩ = some (.string ty.r) := htc 2 _ rfl
              have hs0 : wr.cell? ⟨tb, toff + v * 3, none⟩ = some (.int .i64 ty.k) := htc' 0 _ rfl
              have hs1 : wr.cell? ⟨tb, toff + v * 3 + 1, none⟩ = some (.int .i64 ty.n) := htc' 1 _ rfl
              have hs2 : wr.cell? ⟨tb, toff + v * 3 + 2, none⟩ = some (.string ty.r) := htc' 2 _ rfl
              have htbs : tb < wr.heap.size := by have := hB5q.size; omega
              have hun : (u : Int) < (n : Int) := by omega
              have hvn : (v : Int) < (n : Int) := by omega
              have hne : ∀ w' : World, (binOp .neq 23 (.agg #[.int .i64 ty.k, .int .i64 ty.n, .string ty.r]) (.agg #[.int .i64 ty.k, .int .i64 ty.n, .string ty.r])).run Try.prog w' = .ok (.bool false) w' := fun w' => by
                have := run_neTy ty.k ty.n ty.r ty.k ty.n ty.r w'
                rw [show eqTy ty.k ty.n ty.r ty.k ty.n ty.r = true from eqT_refl ty] at this
                exact this
              clear hlc htc htc' hua hvb hu hv htu htv hk ha0 han hb0 hbn
              go_wp2_with fail
              go_quiet (fail)
              go_wp2_with fail
              go_roundg (gk - 1)
              case measure => have := HQ3.out; omega
              case rel => exact ⟨q3 + 1, by have := HQ3.out; omega, by go_num, by (repeat (first | exact Below.refl _ _ | assumption | refine Below.trans ?_ (Below.mono (by assumption) (by first | omega | (simp; done) | (simp; omega))) | refine Below.alloc ?_ (by first | omega | (simp; done) | (simp; omega)) _ | refine Below.setCell ?_ (by first | omega | (simp; done) | (simp; omega)) _ | refine Below.drew ?_ | refine below_drewN ?_ _))⟩
            · obtain ⟨u, hu⟩ : ∃ u, c.a.toNat = u := ⟨_, rfl⟩
              have hua : c.a = (u : Int) := by omega
              rw [hu] at htu
              have hl0 : wr.cell? ⟨lb, loff + q3 * 8, none⟩ = some (.int .i64 0) := by rw [← hk]; exact hlc 0 _ rfl
              have hl1 : wr.cell? ⟨lb, loff + q3 * 8 + 1, none⟩ = some (.int .i64 (u : Int)) := by rw [← hua]; exact hlc 1 _ rfl
              have hl2 : wr.cell? ⟨lb, loff + q3 * 8 + 2, none⟩ = some (.int .i64 c.b) := hlc 2 _ rfl
              obtain ⟨tb, toff, hA, htb, htc⟩ := (HT3.out.below hB5q (Nat.le_refl _)) u _ htu
              subst hA
              have ht0 : wr.cell? ⟨tb, toff + u * 3, none⟩ = some (.int .i64 ty.k) := htc 0 _ rfl
              have ht1 : wr.cell? ⟨tb, toff + u * 3 + 1, none⟩ = some (.int .i64 ty.n) := htc 1 _ rfl
              have ht2 : wr.cell? ⟨tb, toff + u * 3 + 2, none⟩ = some (.string ty.r) := htc 2 _ rfl
              have htbs : tb < wr.heap.size := by have := hB5q.size; omega
              have hun : (u : Int) < (n : Int) := by omega
              rcases hcase with heq | ⟨hneq, hex⟩
              · have hne : ∀ w' : World, (binOp .neq 23 (.agg #[.int .i64 ty.k, .int .i64 ty.n, .string ty.r]) (.agg #[.int .i64 0, .int .i64 0, .string ⟨#[]⟩])).run Try.prog w' = .ok (.bool false) w' := fun w' => by
                  have := run_neTy ty.k ty.n ty.r 0 0 ⟨#[]⟩ w'
                  rw [show eqTy ty.k ty.n ty.r 0 0 ⟨#[]⟩ = true from heq] at this
                  exact this
                clear hlc htc hua hu htu hk ha0 han heq
                go_wp2_with fail
                go_quiet (fail)
                go_wp2_with fail
                go_roundg (gk - 1)
                case measure => have := HQ3.out; omega
                case rel => exact ⟨q3 + 1, by have := HQ3.out; omega, by go_num, by (repeat (first | exact Below.refl _ _ | assumption | refine Below.trans ?_ (Below.mono (by assumption) (by first | omega | (simp; done) | (simp; omega))) | refine Below.alloc ?_ (by first | omega | (simp; done) | (simp; omega)) _ | refine Below.setCell ?_ (by first | omega | (simp; done) | (simp; omega)) _ | refine Below.drew ?_ | refine below_drewN ?_ _))⟩
              · have hne : ∀ w' : World, (binOp .neq 23 (.agg #[.int .i64 ty.k, .int .i64 ty.n, .string ty.r]) (.agg #[.int .i64 0, .int .i64 0, .string ⟨#[]⟩])).run Try.prog w' = .ok (.bool true) w' := fun w' => by
                  have := run_neTy ty.k ty.n ty.r 0 0 ⟨#[]⟩ w'
                  rw [show eqTy ty.k ty.n ty.r 0 0 ⟨#[]⟩ = false from hneq] at this
                  exact this
                have HEX := Lib.hid hex
                clear hlc htc hua hu htu hk ha0 han hneq hex
                go_wp2_with fail
                generalize hW5 : wr.alloc (.cells #[.int .i64 0, .int .i64 (u : Int), .int .i64 c.b, .int .i64 c.tk, .int .i64 c.tl, .string c.tr, .int .i64 c.at_, .int .i64 c.end_] 36) = W5
                have hbk : Blk W5 wr.heap.size 36 #[.int .i64 0, .int .i64 (u : Int), .int .i64 c.b, .int .i64 c.tk, .int .i64 c.tl, .string c.tr, .int .i64 c.at_, .int .i64 c.end_] := by rw [← hW5]; exact Blk.new _ _ _
                have hBW : Below wr.heap.size wr W5 := by rw [← hW5]; (repeat (first | exact Below.refl _ _ | assumption | refine Below.trans ?_ (Below.mono (by assumption) (by first | omega | (simp; done) | (simp; omega))) | refine Below.alloc ?_ (by first | omega | (simp; done) | (simp; omega)) _ | refine Below.setCell ?_ (by first | omega | (simp; done) | (simp; omega)) _ | refine Below.drew ?_ | refine below_drewN ?_ _))
                have hKS : ∀ w' : World, Below W5.heap.size W5 w' → w'.cell? ⟨wr.heap.size, 0, none⟩ = some (.int .i64 0) ∧ w'.cell? ⟨wr.heap.size, 1, none⟩ = some (.int .i64 (u : Int)) ∧ w'.cell? ⟨wr.heap.size, 3, none⟩ = some (.int .i64 c.tk) ∧ w'.cell? ⟨wr.heap.size, 4, none⟩ = some (.int .i64 c.tl) ∧ w'.cell? ⟨wr.heap.size, 5, none⟩ = some (.string c.tr) ∧ w'.cell? ⟨tb, toff + u * 3, none⟩ = some (.int .i64 ty.k) ∧ w'.cell? ⟨tb, toff + u * 3 + 1, none⟩ = some (.int .i64 ty.n) ∧ w'.cell? ⟨tb, toff + u * 3 + 2, none⟩ = some (.string ty.r) := fun w' hb =>
                  ⟨(hbk.below hb hbk.lt).cell 0, (hbk.below hb hbk.lt).cell 1, (hbk.below hb hbk.lt).cell 3, (hbk.below hb hbk.lt).cell 4, (hbk.below hb hbk.lt).cell 5,
                    (hb.cell (p := ⟨tb, _, none⟩) (by show tb < _; have := hBW.size; omega)).trans ((hBW.cell (p := ⟨tb, _, none⟩) htbs).trans ht0), (hb.cell (p := ⟨tb, _, none⟩) (by show tb < _; have := hBW.size; omega)).trans ((hBW.cell (p := ⟨tb, _, none⟩) htbs).trans ht1), (hb.cell (p := ⟨tb, _, none⟩) (by show tb < _; have := hBW.size; omega)).trans ((hBW.cell (p := ⟨tb, _, none⟩) htbs).trans ht2)⟩
                have HKS := Lib.hid hKS
                have hS0 := hKS W5.drew (Below.refl _ _).drew
                clear hKS hbk hW5 hl0 hl1 hl2 hl3 hl4 hl5 hl6 hl7 ht0 ht1 ht2
                refine wp_region_HG (fun w' => w'.cell? ⟨wr.heap.size, 0, none⟩ = some (.int .i64 0) ∧ w'.cell? ⟨wr.heap.size, 1, none⟩ = some (.int .i64 (u : Int)) ∧ w'.cell? ⟨wr.heap.size, 3, none⟩ = some (.int .i64 c.tk) ∧ w'.cell? ⟨wr.heap.size, 4, none⟩ = some (.int .i64 c.tl) ∧ w'.cell? ⟨wr.heap.size, 5, none⟩ = some (.string c.tr) ∧ w'.cell? ⟨tb, toff + u * 3, none⟩ = some (.int .i64 ty.k) ∧ w'.cell? ⟨tb, toff + u * 3 + 1, none⟩ = some (.int .i64 ty.n) ∧ w'.cell? ⟨tb, toff + u * 3 + 2, none⟩ = some (.string ty.r)) [] [true, true, true, true, true, true, true, true, true, true, true, true, true, true, true, true, true, true, true, true, true, true, true, true, true, true, true, true, true, true, true, true, true, true, true, true, true, false, true, true] (by kernel_rfl) (by kernel_rfl) rfl (by kernel_rfl) ?_
                first | (refine wpHG_off (by rfl) hS0 ?_) | (refine wpHG_soft (by rfl) hS0 (by intro w' hSw; obtain ⟨hs1, hs2, hs3, hs4, hs5, hs6, hs7, hs8⟩ := hSw; go_simp; rfl) ?_)
                simp only [Act.put, List.setIfInBounds_toArray, List.set_cons_zero, List.set_cons_succ]
                first | (refine wpHG_off (by rfl) hS0 ?_) | (refine wpHG_soft (by rfl) hS0 (by intro w' hSw; obtain ⟨hs1, hs2, hs3, hs4, hs5, hs6, hs7, hs8⟩ := hSw; go_simp; rfl) ?_)
                simp only [Act.put, List.setIfInBounds_toArray, List.set_cons_zero, List.set_cons_succ]
                first | (refine wpHG_off (by rfl) hS0 ?_) | (refine wpHG_soft (by rfl) hS0 (by intro w' hSw; obtain ⟨hs1, hs2, hs3, hs4, hs5, hs6, hs7, hs8⟩ := hSw; go_simp; rfl) ?_)
                simp only [Act.put, List.setIfInBounds_toArray, List.set_cons_zero, List.set_cons_succ]
                first | (refine wpHG_off (by rfl) hS0 ?_) | (refine wpHG_soft (by rfl) hS0 (by intro w' hSw; obtain ⟨hs1, hs2, hs3, hs4, hs5, hs6, hs7, hs8⟩ := hSw; go_simp; rfl) ?_)
                simp only [Act.put, List.setIfInBounds_toArray, List.set_cons_zero, List.set_cons_succ]
                first | (refine wpHG_off (by rfl) hS0 ?_) | (refine wpHG_soft (by rfl) hS0 (by intro w' hSw; obtain ⟨hs1, hs2, hs3, hs4, hs5, hs6, hs7, hs8⟩ := hSw; go_simp; rfl) ?_)
                simp only [Act.put, List.setIfInBounds_toArray, List.set_cons_zero, List.set_cons_succ]
                first | (refine wpHG_off (by rfl) hS0 ?_) | (refine wpHG_soft (by rfl) hS0 (by intro w' hSw; obtain ⟨hs1, hs2, hs3, hs4, hs5, hs6, hs7, hs8⟩ := hSw; go_simp; rfl) ?_)
                simp only [Act.put, List.setIfInBounds_toArray, List.set_cons_zero, List.set_cons_succ]
                first | (refine wpHG_off (by rfl) hS0 ?_) | (refine wpHG_soft (by rfl) hS0 (by intro w' hSw; obtain ⟨hs1, hs2, hs3, hs4, hs5, hs6, hs7, hs8⟩ := hSw; go_simp; rfl) ?_)
                simp only [Act.put, List.setIfInBounds_toArray, List.set_cons_zero, List.set_cons_succ]
                first | (refine wpHG_off (by rfl) hS0 ?_) | (refine wpHG_soft (by rfl) hS0 (by intro w' hSw; obtain ⟨hs1, hs2, hs3, hs4, hs5, hs6, hs7, hs8⟩ := hSw; go_simp; rfl) ?_)
                simp only [Act.put, List.setIfInBounds_toArray, List.set_cons_zero, List.set_cons_succ]
                first | (refine wpHG_off (by rfl) hS0 ?_) | (refine wpHG_soft (by rfl) hS0 (by intro w' hSw; obtain ⟨hs1, hs2, hs3, hs4, hs5, hs6, hs7, hs8⟩ := hSw; go_simp; rfl) ?_)
                simp only [Act.put, List.setIfInBounds_toArray, List.set_cons_zero, List.set_cons_succ]
                first | (refine wpHG_off (by rfl) hS0 ?_) | (refine wpHG_soft (by rfl) hS0 (by intro w' hSw; obtain ⟨hs1, hs2, hs3, hs4, hs5, hs6, hs7, hs8⟩ := hSw; go_simp; rfl) ?_)
                simp only [Act.put, List.setIfInBounds_toArray, List.set_cons_zero, List.set_cons_succ]
                first | (refine wpHG_off (by rfl) hS0 ?_) | (refine wpHG_soft (by rfl) hS0 (by intro w' hSw; obtain ⟨hs1, hs2, hs3, hs4, hs5, hs6, hs7, hs8⟩ := hSw; go_simp; rfl) ?_)
                simp only [Act.put, List.setIfInBounds_toArray, List.set_cons_zero, List.set_cons_succ]
                first | (refine wpHG_off (by rfl) hS0 ?_) | (refine wpHG_soft (by rfl) hS0 (by intro w' hSw; obtain ⟨hs1, hs2, hs3, hs4, hs5, hs6, hs7, hs8⟩ := hSw; go_simp; rfl) ?_)
                simp only [Act.put, List.setIfInBounds_toArray, List.set_cons_zero, List.set_cons_succ]
                first | (refine wpHG_off (by rfl) hS0 ?_) | (refine wpHG_soft (by rfl) hS0 (by intro w' hSw; obtain ⟨hs1, hs2, hs3, hs4, hs5, hs6, hs7, hs8⟩ := hSw; go_simp; rfl) ?_)
                simp only [Act.put, List.setIfInBounds_toArray, List.set_cons_zero, List.set_cons_succ]
                first | (refine wpHG_off (by rfl) hS0 ?_) | (refine wpHG_soft (by rfl) hS0 (by intro w' hSw; obtain ⟨hs1, hs2, hs3, hs4, hs5, hs6, hs7, hs8⟩ := hSw; go_simp; rfl) ?_)
                simp only [Act.put, List.setIfInBounds_toArray, List.set_cons_zero, List.set_cons_succ]
                first | (refine wpHG_off (by rfl) hS0 ?_) | (refine wpHG_soft (by rfl) hS0 (by intro w' hSw; obtain ⟨hs1, hs2, hs3, hs4, hs5, hs6, hs7, hs8⟩ := hSw; go_simp; rfl) ?_)
                simp only [Act.put, List.setIfInBounds_toArray, List.set_cons_zero, List.set_cons_succ]
                first | (refine wpHG_off (by rfl) hS0 ?_) | (refine wpHG_soft (by rfl) hS0 (by intro w' hSw; obtain ⟨hs1, hs2, hs3, hs4, hs5, hs6, hs7, hs8⟩ := hSw; go_simp; rfl) ?_)
                simp only [Act.put, List.setIfInBounds_toArray, List.set_cons_zero, List.set_cons_succ]
                first | (refine wpHG_off (by rfl) hS0 ?_) | (refine wpHG_soft (by rfl) hS0 (by intro w' hSw; obtain ⟨hs1, hs2, hs3, hs4, hs5, hs6, hs7, hs8⟩ := hSw; go_simp; rfl) ?_)
                simp only [Act.put, List.setIfInBounds_toArray, List.set_cons_zero, List.set_cons_succ]
                first | (refine wpHG_off (by rfl) hS0 ?_) | (refine wpHG_soft (by rfl) hS0 (by intro w' hSw; obtain ⟨hs1, hs2, hs3, hs4, hs5, hs6, hs7, hs8⟩ := hSw; go_simp; rfl) ?_)
                simp only [Act.put, List.setIfInBounds_toArray, List.set_cons_zero, List.set_cons_succ]
                first | (refine wpHG_off (by rfl) hS0 ?_) | (refine wpHG_soft (by rfl) hS0 (by intro w' hSw; obtain ⟨hs1, hs2, hs3, hs4, hs5, hs6, hs7, hs8⟩ := hSw; go_simp; rfl) ?_)
                simp only [Act.put, List.setIfInBounds_toArray, List.set_cons_zero, List.set_cons_succ]
                first | (refine wpHG_off (by rfl) hS0 ?_) | (refine wpHG_soft (by rfl) hS0 (by intro w' hSw; obtain ⟨hs1, hs2, hs3, hs4, hs5, hs6, hs7, hs8⟩ := hSw; go_simp; rfl) ?_)
                simp only [Act.put, List.setIfInBounds_toArray, List.set_cons_zero, List.set_cons_succ]
                first | (refine wpHG_off (by rfl) hS0 ?_) | (refine wpHG_soft (by rfl) hS0 (by intro w' hSw; obtain ⟨hs1, hs2, hs3, hs4, hs5, hs6, hs7, hs8⟩ := hSw; go_simp; rfl) ?_)
                simp only [Act.put, List.setIfInBounds_toArray, List.set_cons_zero, List.set_cons_succ]
                first | (refine wpHG_off (by rfl) hS0 ?_) | (refine wpHG_soft (by rfl) hS0 (by intro w' hSw; obtain ⟨hs1, hs2, hs3, hs4, hs5, hs6, hs7, hs8⟩ := hSw; go_simp; rfl) ?_)
                simp only [Act.put, List.setIfInBounds_toArray, List.set_cons_zero, List.set_cons_succ]
                first | (refine wpHG_off (by rfl) hS0 ?_) | (refine wpHG_soft (by rfl) hS0 (by intro w' hSw; obtain ⟨hs1, hs2, hs3, hs4, hs5, hs6, hs7, hs8⟩ := hSw; go_simp; rfl) ?_)
                simp only [Act.put, List.setIfInBounds_toArray, List.set_cons_zero, List.set_cons_succ]
                first | (refine wpHG_off (by rfl) hS0 ?_) | (refine wpHG_soft (by rfl) hS0 (by intro w' hSw; obtain ⟨hs1, hs2, hs3, hs4, hs5, hs6, hs7, hs8⟩ := hSw; go_simp; rfl) ?_)
                simp only [Act.put, List.setIfInBounds_toArray, List.set_cons_zero, List.set_cons_succ]
                first | (refine wpHG_off (by rfl) hS0 ?_) | (refine wpHG_soft (by rfl) hS0 (by intro w' hSw; obtain ⟨hs1, hs2, hs3, hs4, hs5, hs6, hs7, hs8⟩ := hSw; go_simp; rfl) ?_)
                simp only [Act.put, List.setIfInBounds_toArray, List.set_cons_zero, List.set_cons_succ]
                first | (refine wpHG_off (by rfl) hS0 ?_) | (refine wpHG_soft (by rfl) hS0 (by intro w' hSw; obtain ⟨hs1, hs2, hs3, hs4, hs5, hs6, hs7, hs8⟩ := hSw; go_simp; rfl) ?_)
                simp only [Act.put, List.setIfInBounds_toArray, List.set_cons_zero, List.set_cons_succ]
                first | (refine wpHG_off (by rfl) hS0 ?_) | (refine wpHG_soft (by rfl) hS0 (by intro w' hSw; obtain ⟨hs1, hs2, hs3, hs4, hs5, hs6, hs7, hs8⟩ := hSw; go_simp; rfl) ?_)
                simp only [Act.put, List.setIfInBounds_toArray, List.set_cons_zero, List.set_cons_succ]
                first | (refine wpHG_off (by rfl) hS0 ?_) | (refine wpHG_soft (by rfl) hS0 (by intro w' hSw; obtain ⟨hs1, hs2, hs3, hs4, hs5, hs6, hs7, hs8⟩ := hSw; go_simp; rfl) ?_)
                simp only [Act.put, List.setIfInBounds_toArray, List.set_cons_zero, List.set_cons_succ]
                first | (refine wpHG_off (by rfl) hS0 ?_) | (refine wpHG_soft (by rfl) hS0 (by intro w' hSw; obtain ⟨hs1, hs2, hs3, hs4, hs5, hs6, hs7, hs8⟩ := hSw; go_simp; rfl) ?_)
                simp only [Act.put, List.setIfInBounds_toArray, List.set_cons_zero, List.set_cons_succ]
                first | (refine wpHG_off (by rfl) hS0 ?_) | (refine wpHG_soft (by rfl) hS0 (by intro w' hSw; obtain ⟨hs1, hs2, hs3, hs4, hs5, hs6, hs7, hs8⟩ := hSw; go_simp; rfl) ?_)
                simp only [Act.put, List.setIfInBounds_toArray, List.set_cons_zero, List.set_cons_succ]
                first | (refine wpHG_off (by rfl) hS0 ?_) | (refine wpHG_soft (by rfl) hS0 (by intro w' hSw; obtain ⟨hs1, hs2, hs3, hs4, hs5, hs6, hs7, hs8⟩ := hSw; go_simp; rfl) ?_)
                simp only [Act.put, List.setIfInBounds_toArray, List.set_cons_zero, List.set_cons_succ]
                first | (refine wpHG_off (by rfl) hS0 ?_) | (refine wpHG_soft (by rfl) hS0 (by intro w' hSw; obtain ⟨hs1, hs2, hs3, hs4, hs5, hs6, hs7, hs8⟩ := hSw; go_simp; rfl) ?_)
                simp only [Act.put, List.setIfInBounds_toArray, List.set_cons_zero, List.set_cons_succ]
                first | (refine wpHG_off (by rfl) hS0 ?_) | (refine wpHG_soft (by rfl) hS0 (by intro w' hSw; obtain ⟨hs1, hs2, hs3, hs4, hs5, hs6, hs7, hs8⟩ := hSw; go_simp; rfl) ?_)
                simp only [Act.put, List.setIfInBounds_toArray, List.set_cons_zero, List.set_cons_succ]
                first | (refine wpHG_off (by rfl) hS0 ?_) | (refine wpHG_soft (by rfl) hS0 (by intro w' hSw; obtain ⟨hs1, hs2, hs3, hs4, hs5, hs6, hs7, hs8⟩ := hSw; go_simp; rfl) ?_)
                simp only [Act.put, List.setIfInBounds_toArray, List.set_cons_zero, List.set_cons_succ]
                first | (refine wpHG_off (by rfl) hS0 ?_) | (refine wpHG_soft (by rfl) hS0 (by intro w' hSw; obtain ⟨hs1, hs2, hs3, hs4, hs5, hs6, hs7, hs8⟩ := hSw; go_simp; rfl) ?_)
                simp only [Act.put, List.setIfInBounds_toArray, List.set_cons_zero, List.set_cons_succ]
                first | (refine wpHG_off (by rfl) hS0 ?_) | (refine wpHG_soft (by rfl) hS0 (by intro w' hSw; obtain ⟨hs1, hs2, hs3, hs4, hs5, hs6, hs7, hs8⟩ := hSw; go_simp; rfl) ?_)
                simp only [Act.put, List.setIfInBounds_toArray, List.set_cons_zero, List.set_cons_succ]
                first | (refine wpHG_off (by rfl) hS0 ?_) | (refine wpHG_soft (by rfl) hS0 (by intro w' hSw; obtain ⟨hs1, hs2, hs3, hs4, hs5, hs6, hs7, hs8⟩ := hSw; go_simp; rfl) ?_)
                simp only [Act.put, List.setIfInBounds_toArray, List.set_cons_zero, List.set_cons_succ]
                refine wpHG_law (by rfl) ?_
                go_simp
                refine (ExcludeR_any _ _ _ _ _ _ _).mono ?_
                rintro e w6 ⟨rfl, hb6⟩
                rw [HEX.out]
                have hS1 := HKS.out w6 (bstep (W0 := W5) (Below.refl _ _).drew hb6)
                refine ⟨hS1, ?_⟩
                first | (refine wpHG_off (by rfl) hS1 ?_) | (refine wpHG_soft (by rfl) hS1 (by intro w' hSw; obtain ⟨hs1, hs2, hs3, hs4, hs5, hs6, hs7, hs8⟩ := hSw; go_simp; rfl) ?_)
                simp only [Act.put, List.setIfInBounds_toArray, List.set_cons_zero, List.set_cons_succ]
                first | (refine wpHG_off (by rfl) hS1 ?_) | (refine wpHG_soft (by rfl) hS1 (by intro w' hSw; obtain ⟨hs1, hs2, hs3, hs4, hs5, hs6, hs7, hs8⟩ := hSw; go_simp; rfl) ?_)
                simp only [Act.put, List.setIfInBounds_toArray, List.set_cons_zero, List.set_cons_succ]
                refine wpHG_nil ?_
                have hB6 : Below wo.heap.size wo w6 := by
                  have h1 := hB5.trans (hBW.mono hB5s)
                  exact h1.drew.trans (hb6.mono h1.size)
                clear hS0 hS1 HKS hne
                go_wp2_with fail
                go_roundg (gk - 1)
                case measure => have := HQ3.out; omega
                case rel => exact ⟨q3 + 1, by have := HQ3.out; omega, by go_num, hB6⟩
          · go_wp2_with fail
            refine (awake_any _).mono ?_
            rintro e w6 ⟨rfl, hb6⟩
            go_wp2_with fail
            go_ret
            exact ⟨rfl, hB5w.trans (hb6.mono hB5w.size)⟩
  · have heb : (er == 0) = false := by simpa using her
    have heb2 : (er != 0) = true := by simpa using her
    obtain ⟨rfl, rfl⟩ := hTN her
    clear hv60 hCF hKF hTL hTN hv0 her
    go_wp2_with fail
    refine (HS1.out w HL.out).mono ?_
    rintro e w2 ⟨A1, c1, A2, c2, rfl, hT1, hC1, hb2⟩
    clear hT1 hC1
    go_wp2_with fail
    refine (HF1.out w2 (HL.out.later hb2)).mono ?_
    rintro e w3 ⟨rfl, hb3⟩
    have hB3 : Below w.heap.size w w3 := hb2.trans (hb3.mono hb2.size)
    rw [heb]
    go_wp2_with fail
    refine (awake_any _).mono ?_
    rintro e w4 ⟨rfl, hb4⟩
    go_wp2_with fail
    go_ret
    exact ⟨rfl, hB3.trans (hb4.mono hB3.size)⟩

end Go.Proofs.Ytpdimehoepfgaaa
