/- ConstraintsGrow, walked. -/
import Derived.Test.YtpdimehoepfgaaaIsCh
import Derived.Test.YtpdimehoepfgaaaPl7
import Derived.Test.YtpdimehoepfgaaaRdW
namespace Go.Proofs.Ytpdimehoepfgaaa
open Go.RowKit

theorem any_snoc {α : Type} {l : List α} {k : Nat} {x : α} (f : α → Bool) (h : l[k]? = some x) : (l.take (k + 1)).any f = ((l.take k).any f || f x) := by
  rw [take_snoc' _ _ _ h, List.any_append]
  simp

theorem connL_get {l : List Con} {n s v : Nat} (hv : v < n) : (connL l n s).getD v false = decide (0 ≤ dd l n s v) := by
  unfold connL
  rw [List.getD_eq_getElem?_getD, List.getElem?_map, List.getElem?_range hv]
  rfl

set_option maxHeartbeats 4000000 in
set_option maxRecDepth 100000 in
theorem lawGrow_any (vert : Int) (AL : Option Addr) (nl cL : Nat) (l : List Con) (w : World) (hL : RowAt 8 conCells w w.heap.size AL l) (hl : l.length = nl) (hcap : nl ≤ cL) (hcm : cL ≤ maxLen) :
    Calls Try.prog 5 #[.int .i64 vert, .slice AL nl cL] w fun e w' => e = .returned (.bool true) ∧ Below w.heap.size w w' := by
  obtain ⟨c0, hc0, hcz, hcs, hcb⟩ := info_parts con_info
  have hfew := few_any vert AL nl cL w (Nat.le_trans hcap hcm)
  have HL := Lib.hid hL
  have HLl := Lib.hid hl
  have HFEW := Lib.hid hfew
  unfold maxLen at hcm
  clear hL hl hfew
  go_enter Try.func5, Try.ntmps5
  go_wp2_with fail
  refine HFEW.out.mono ?_
  rintro e w1 ⟨rfl, rfl⟩
  obtain ⟨fb, hfb⟩ : ∃ fb, fewB vert nl = fb := ⟨_, rfl⟩
  rw [hfb]
  have HFB := Lib.hid hfb
  clear hfb HFEW
  cases fb
  · go_wp2_with fail
    refine (awake_any _).mono ?_
    rintro e w1 ⟨rfl, hb⟩
    go_wp2_with fail
    go_ret
    exact ⟨rfl, hb⟩
  have hn80 : nl ≤ 80 := by
    have := HFB.out
    simp [fewB] at this
    exact this.1
  by_cases hz : nl = 0
  · have hz1 : (nl == 0) = true := by simp [hz]
    have hz2 : ((nl : Int) == 0) = true := by simp [hz]
    clear hz
    go_wp2_with fail
    refine (awake_any _).mono ?_
    rintro e w1 ⟨rfl, hb⟩
    go_wp2_with fail
    go_ret
    exact ⟨rfl, hb⟩
  obtain ⟨p, rfl⟩ : ∃ p, nl = p + 1 := ⟨nl - 1, by omega⟩
  clear hz
  have hsl : ∀ w' : World, (Instr.slice 26 (.slice AL (p + 1) cL) none (some (.int .i64 (p : Int))) none).run Try.prog w' = .ok (.slice AL p cL) w' := fun w' =>
    run_slice_upto (P := Try.prog) w' 26 36 c0 Try.underlying26 hc0 AL (p + 1) cL p (by omega)
  have hlt : (l.take p).length = p := by rw [List.length_take, HLl.out]; omega
  have hS1 := fun (w' : World) (h : RowAt 8 conCells w' w'.heap.size AL l) => Solve_all vert AL (p + 1) cL l w' h HLl.out (by omega)
  have hS2 := fun (w' : World) (h : RowAt 8 conCells w' w'.heap.size AL l) => Solve_all vert AL p cL (l.take p) w' (h.take p) hlt (by omega)
  have hF1 := fun (w' : World) (h : RowAt 8 conCells w' w'.heap.size AL l) => Fits_any vert AL (p + 1) cL l w' h HLl.out (by omega)
  have hln := solve_lens vert l
  have hln2 := solve_lens vert (l.take p)
  have hv60 : solveErr vert l = 0 → vert ≤ 60 := fun h => by
    have h1 := err_zero h
    have h2 := HFB.out
    simp [fewB] at h2
    omega
  have hCF := fun h0 => @chain_facts vert l h0 (hv60 h0)
  have hGF := fun h0 => @grow_facts vert l p h0 (hv60 h0)
  have hGE := @grow_err vert l p
  have hEZ := @err_zero vert l
  generalize solveErr vert (l.take p) = er2 at hS2 hGE
  generalize solveErr vert l = er at hS1 hF1 hv60 hCF hGF hGE hEZ
  generalize solveTys vert l = T1 at *
  generalize solveChs vert l = X1 at *
  generalize solveTys vert (l.take p) = T2 at *
  generalize solveChs vert (l.take p) = X2 at *
  have HS1 := Lib.hid hS1
  have HS2 := Lib.hid hS2
  have HF1 := Lib.hid hF1
  obtain ⟨hlt1, hlx1⟩ := hln
  obtain ⟨hlt2, hlx2⟩ := hln2
  clear hS1 hS2 hF1 hlt
  obtain ⟨NX1, hNX1⟩ : ∃ NX, X1.length = NX := ⟨_, rfl⟩
  obtain ⟨NX2, hNX2⟩ : ∃ NX, X2.length = NX := ⟨_, rfl⟩
  have HNX1 := Lib.hid hNX1
  have HNX2 := Lib.hid hNX2
  rw [hNX1] at hlx1
  rw [hNX2] at hlx2
  clear hNX1 hNX2
  by_cases her : er = 0
  · subst her
    have h20 : er2 = 0 := hGE rfl
    subst h20
    have hv6 := hv60 rfl
    obtain ⟨hvp, _, hOK⟩ := hEZ rfl
    have HCF := Lib.hid (hCF rfl)
    have HGF := Lib.hid (hGF rfl)
    clear hv60 hCF hGF hGE hEZ
    obtain ⟨n, rfl⟩ : ∃ n : Nat, vert = (n : Int) := ⟨vert.toNat, by omega⟩
    rw [Int.toNat_natCast] at hOK
    simp only [Int.toNat_natCast] at HCF HGF
    have HOK := Lib.hid hOK
    clear hOK
    go_wp2_with fail
    refine (HS1.out w HL.out).mono ?_
    rintro e w2 ⟨A1, c1, A2, c2, rfl, -, hC1, hb2⟩
    rw [HNX1.out]
    have HC1 := Lib.hid hC1
    clear hC1
    go_wp2_with fail
    refine (HS2.out w2 (HL.out.later hb2)).mono ?_
    rintro e w3 ⟨A3, c3, A4, c4, rfl, -, hC2, hb3⟩
    rw [HNX2.out]
    have hB3 : Below w.heap.size w w3 := hb2.trans (hb3.mono hb2.size)
    have HC1b := Lib.hid (HC1.out.later hb3)
    have HC2 := Lib.hid hC2
    clear hC2 HC1 hb2 hb3 hsl
    go_wp2_with fail
    refine (HF1.out w3 (HL.out.later hB3)).mono ?_
    rintro e w4 ⟨rfl, hb4⟩
    have hB4 : Below w.heap.size w w4 := hB3.trans (hb4.mono hB3.size)
    have HC1c := Lib.hid (HC1b.out.later hb4)
    have HC2c := Lib.hid (HC2.out.later hb4)
    have hbb : ((0 : Int) == 0) = true := rfl
    clear HC1b HC2 hb4 hB3 HS1 HS2 HF1
    go_wp2_with fail
    go_loopg [58] NX2 (fun gk s wr => ∃ q : Nat, q + gk = NX2 ∧ s = .int .i64 q ∧ Below w4.heap.size w4 wr)
    case atStart => exact ⟨0, by omega, rfl, Below.refl _ _⟩
    case round =>
      obtain ⟨q, hq, rfl, hBq⟩ := hrel
      have hq' : q ≤ NX2 := by omega
      have HQ := Lib.hid hq
      have hBqs := hBq.size
      have hBw : Below w.heap.size w wr := hB4.trans (hBq.mono hB4.size)
      have hBws := hBw.size
      clear hq
      by_cases hlt : q < NX2
      · have hq1 : q < X2.length := by rw [HNX2.out]; exact hlt
        have hqx : X2[q]? = some X2[q] := List.getElem?_eq_getElem hq1
        obtain ⟨i, j, c, c', es, hg, han, hch100, other0, hoth, hcond⟩ := HGF.out _ (List.getElem_mem hq1)
        obtain ⟨b1, o1, Ai, ci, hA, hbb1, hcc, hle, hrow⟩ := (HC2c.out.below hBq (Nat.le_refl _)) q _ hqx
        generalize X2[q] = ch at *
        subst hA
        have hrow' := hrow.mono hBqs
        have hLr := (HL.out.below hBw (Nat.le_refl _)).mono hBws
        have hisc := isChain_any AL (p + 1) cL l Ai ci ch i j c c' es wr hLr HLl.out hrow' hle hg (by omega)
        have hqi : (q : Int) < (NX2 : Int) := by omega
        obtain ⟨cb, coff, hA, hcbb, hcell0⟩ := hrow' 0 (i : Int) (by rw [hg.shape]; rfl)
        subst hA
        have hx0 : wr.cell? ⟨cb, coff, none⟩ = some (.int .i64 (i : Int)) := by simpa using hcell0 0 _ rfl
        obtain ⟨lb, loff, hA, hlb, hlc⟩ := hLr i c hg.first
        subst hA
        have hil : (i : Int) < ((p + 1 : Nat) : Int) := by have := (List.getElem?_eq_some_iff.1 hg.first).1; rw [HLl.out] at this; omega
        have hil2 : (i : Int) < (p : Int) + 1 := by omega
        obtain ⟨u0, hu0⟩ : ∃ u0, c.a.toNat = u0 := ⟨_, rfl⟩
        have hua : c.a = (u0 : Int) := by have := hg.a0; omega
        rw [hu0] at han hcond
        have hla : wr.cell? ⟨lb, loff + i * 8 + 1, none⟩ = some (.int .i64 (u0 : Int)) := by rw [← hua]; exact hlc 1 _ rfl
        have hlbs : lb < wr.heap.size := hlb
        have hbbs : b1 < wr.heap.size := by omega
        have hcbs : cb < wr.heap.size := hcbb
        have hpos : 0 < ch.length := by rw [hg.shape]; simp
        have hposi : (0 : Int) < (ch.length : Int) := by omega
        have hch1 : ch.length ≤ 1000 := by omega
        have hfin : X1.any (condF l n u0 ch.length) = true := List.any_eq_true.2 ⟨other0, hoth, hcond⟩
        have HFIN := Lib.hid hfin
        have HISC := Lib.hid hisc
        have HLR := Lib.hid hLr
        clear hisc hrow hrow' hLr hcell0 hlc hu0 hua hg hqx hle hcond hoth hfin
        go_wp2_with fail
        refine HISC.out.mono ?_
        rintro e w5 ⟨rfl, hb5⟩
        obtain ⟨hcc5, hff5⟩ := bcell hb5
        have hz5 := hb5.size
        go_wp2_with fail
        clear hcc5 hff5
        refine (Connected_any n u0 _ (p + 1) cL l w5 (HLR.out.later hb5) HLl.out HOK.out han (by omega) (by omega)).mono ?_
        rintro e w6 ⟨g, rfl, hg6, hbl, hb6⟩
        have hB6q : Below w4.heap.size w4 w6 := by
          have h1 := hBq.trans (hb5.mono hBqs)
          exact h1.trans (hb6.mono h1.size)
        have hB6w : Below w.heap.size w w6 := hB4.trans (hB6q.mono hB4.size)
        have HBL := Lib.hid hbl
        have hgl : g < w6.heap.size := Blk.lt hbl
        clear hbl hx0 hla hcc HISC HLR
        obtain ⟨wo, rfl⟩ : ∃ wo : World, wo = wr := ⟨_, rfl⟩
        obtain ⟨go, rfl⟩ : ∃ go : Nat, go = gk := ⟨_, rfl⟩
        go_wp2_with fail
        go_loopg [14, 78] NX1 (fun gk s14 s78 wr => ∃ q2 : Nat, q2 + gk = NX1 ∧ s78 = .int .i64 q2 ∧ s14 = .bool ((X1.take q2).any (condF l n u0 ch.length)) ∧ Below w6.heap.size w6 wr)
        case atStart => exact ⟨0, by omega, rfl, by simp, Below.refl _ _⟩
        case round =>
          obtain ⟨q2, hq2, rfl, hs14, hB7⟩ := hrel
          have hq2' : q2 ≤ NX1 := by omega
          have HQ2 := Lib.hid hq2
          have hB7s := hB7.size
          have hB7w : Below w.heap.size w wr := hB6w.trans (hB7.mono hB6w.size)
          have hB7q : Below w4.heap.size w4 wr := hB6q.trans (hB7.mono hB6q.size)
          clear hq2
          by_cases hlt2 : q2 < NX1
          · have hq3 : q2 < X1.length := by rw [HNX1.out]; exact hlt2
            have hqx : X1[q2]? = some X1[q2] := List.getElem?_eq_getElem hq3
            have hsn := any_snoc (condF l n u0 ch.length) hqx
            obtain ⟨bq, hbq⟩ : ∃ bq, (X1.take q2).any (condF l n u0 ch.length) = bq := ⟨_, rfl⟩
            rw [hbq] at hsn hs14
            subst hs14
            have hq2i : (q2 : Int) < (NX1 : Int) := by omega
            obtain ⟨i2, j2, d, d', es2, hg2, -, -, hch2, -⟩ := HCF.out _ (List.getElem_mem hq3)
            obtain ⟨b2, o2, Ai2, ci2, hA, hbb2, hcc2, hle2, hrow2⟩ := (HC1c.out.below hB7q (Nat.le_refl _)) q2 _ hqx
            generalize X1[q2] = oth at *
            subst hA
            cases bq
            · have hrow' := hrow2.mono hB7q.size
              have hLr := (HL.out.below hB7w (Nat.le_refl _)).mono hB7w.size
              have hisc := isChain_any _ (p + 1) cL l Ai2 ci2 oth i2 j2 d d' es2 wr hLr HLl.out hrow' hle2 hg2 (by omega)
              obtain ⟨eb, eoff, hA, hebb, hcell0⟩ := hrow' 0 (i2 : Int) (by rw [hg2.shape]; rfl)
              subst hA
              have hx0 : wr.cell? ⟨eb, eoff, none⟩ = some (.int .i64 (i2 : Int)) := by simpa using hcell0 0 _ rfl
              obtain ⟨lb', loff', hA, hlb', hlc⟩ := hLr i2 d hg2.first
              cases hA
              have hil3 : (i2 : Int) < (p : Int) + 1 := by have := (List.getElem?_eq_some_iff.1 hg2.first).1; rw [HLl.out] at this; omega
              have m1 := ok_mark HOK.out (List.mem_of_getElem? hg2.first) hg2.kind
              obtain ⟨u2, hu2⟩ : ∃ u2, d.a.toNat = u2 := ⟨_, rfl⟩
              have hua : d.a = (u2 : Int) := by have := hg2.a0; omega
              have hla : wr.cell? ⟨lb, loff + i2 * 8 + 1, none⟩ = some (.int .i64 (u2 : Int)) := by rw [← hua]; exact hlc 1 _ rfl
              have hun : u2 < n := by omega
              have huni : (u2 : Int) < (n : Int) := by omega
              have hcls := (show BoolsBlk wr g (connL l n u0) from Blk.below HBL.out hB7 hgl).cell (i := u2) (by simp [connL]; omega)
              rw [connL_get hun] at hcls
              have hcf : condF l n u0 ch.length oth = (decide (0 ≤ dd l n u0 u2) && decide (oth.length ≤ ch.length)) := by
                unfold condF
                rw [show oth.headD 0 = (i2 : Int) by rw [hg2.shape]; rfl, getC_of hg2.first, hu2]
              rw [hcf, Bool.false_or] at hsn
              have HSN := Lib.hid hsn
              have HISC := Lib.hid hisc
              have hlbs7 : lb < wr.heap.size := by omega
              have hgls7 : g < wr.heap.size := by omega
              have hbbs7 : b2 < wr.heap.size := by have := hB7q.size; omega
              have hpos2 : (0 : Int) < (oth.length : Int) := by rw [hg2.shape]; simp; omega
              have hoth1 : oth.length ≤ 1000 := by omega
              clear hisc hrow' hLr hcell0 hlc hu2 hua hg2 hqx hle2 hsn hcf hbq hrow2 m1
              obtain ⟨bc, hbc⟩ : ∃ bc, decide (0 ≤ dd l n u0 u2) = bc := ⟨_, rfl⟩
              rw [hbc] at hcls HSN
              clear hbc
              go_wp2_with fail
              refine HISC.out.mono ?_
              rintro e w8 ⟨rfl, hb8⟩
              obtain ⟨hcc8, hff8⟩ := bcell hb8
              have hz8 := hb8.size
              have hB8 : Below w6.heap.size w6 w8 := hB7.trans (hb8.mono hB7s)
              cases bc
              · go_wp2_with fail
                go_roundg (gk - 1)
                case measure => have := HQ2.out; omega
                case rel => exact ⟨q2 + 1, by have := HQ2.out; omega, by go_num, by rw [HSN.out]; rfl, hB8⟩
              · by_cases hll : oth.length ≤ ch.length
                · have hdl : decide (oth.length ≤ ch.length) = true := by simpa using hll
                  rw [hdl] at HSN
                  have hdl2 : decide ((oth.length : Int) ≤ (ch.length : Int)) = true := by simpa using hll
                  go_wp2_with fail
                  go_roundg (gk - 1)
                  case measure => have := HQ2.out; omega
                  case rel => exact ⟨q2 + 1, by have := HQ2.out; omega, by go_num, by rw [HSN.out]; rfl, hB8⟩
                · have hdl : decide (oth.length ≤ ch.length) = false := by simpa using hll
                  rw [hdl] at HSN
                  have hdl2 : decide ((oth.length : Int) ≤ (ch.length : Int)) = false := by simpa using hll
                  go_wp2_with fail
                  go_roundg (gk - 1)
                  case measure => have := HQ2.out; omega
                  case rel => exact ⟨q2 + 1, by have := HQ2.out; omega, by go_num, by rw [HSN.out]; rfl, hB8⟩
            · have HSN := Lib.hid hsn
              clear hsn hbq hrow2 hg2 hqx hle2
              go_wp2_with fail
              go_roundg (gk - 1)
              case measure => have := HQ2.out; omega
              case rel => exact ⟨q2 + 1, by have := HQ2.out; omega, by go_num, by rw [HSN.out]; rfl, by (repeat (first | exact Below.refl _ _ | assumption | refine Below.trans ?_ (Below.mono (by assumption) (by first | omega | (simp; done) | (simp; omega))) | refine Below.alloc ?_ (by first | omega | (simp; done) | (simp; omega)) _ | refine Below.setCell ?_ (by first | omega | (simp; done) | (simp; omega)) _ | refine Below.drew ?_ | refine below_drewN ?_ _))⟩
          · have hqe : q2 = NX1 := by omega
            have htk : X1.take q2 = X1 := List.take_of_length_le (by rw [HNX1.out]; omega)
            rw [htk, HFIN.out] at hs14
            subst hs14
            clear hqe htk
            go_wp2_with fail
            go_roundg (go - 1)
            case measure => have := HQ.out; omega
            case rel => exact ⟨q + 1, by have := HQ.out; omega, by go_num, hB7q⟩
      · go_wp2_with fail
        refine (awake_any _).mono ?_
        rintro e w6 ⟨rfl, hb6⟩
        go_wp2_with fail
        go_ret
        exact ⟨rfl, hBw.trans (hb6.mono hBws)⟩
  · have heb : (er == 0) = false := by simpa using her
    clear hv60 hCF hGF hGE hEZ her
    go_wp2_with fail
    refine (HS1.out w HL.out).mono ?_
    rintro e w2 ⟨A1, c1, A2, c2, rfl, -, -, hb2⟩
    rw [HNX1.out]
    go_wp2_with fail
    refine (HS2.out w2 (HL.out.later hb2)).mono ?_
    rintro e w3 ⟨A3, c3, A4, c4, rfl, -, -, hb3⟩
    rw [HNX2.out]
    have hB3 : Below w.heap.size w w3 := hb2.trans (hb3.mono hb2.size)
    clear hsl
    go_wp2_with fail
    refine (HF1.out w3 (HL.out.later hB3)).mono ?_
    rintro e w4 ⟨rfl, hb4⟩
    rw [heb]
    have hB4 : Below w.heap.size w w4 := hB3.trans (hb4.mono hB3.size)
    go_wp2_with fail
    refine (awake_any _).mono ?_
    rintro e w5 ⟨rfl, hb5⟩
    go_wp2_with fail
    go_ret
    exact ⟨rfl, hB4.trans (hb5.mono hB4.size)⟩

end Go.Proofs.Ytpdimehoepfgaaa
