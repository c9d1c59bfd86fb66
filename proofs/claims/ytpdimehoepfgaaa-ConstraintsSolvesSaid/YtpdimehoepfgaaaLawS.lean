/- ConstraintsSolves, walked. -/
import Derived.Test.YtpdimehoepfgaaaExpl
import Derived.Test.YtpdimehoepfgaaaRSol
import Derived.Test.YtpdimehoepfgaaaPl7
namespace Go.Proofs.Ytpdimehoepfgaaa
open Go.RowKit

set_option maxHeartbeats 1000000 in
set_option maxRecDepth 100000 in
theorem RSolve_all (vert : Int) (AL : Option Addr) (nl cL : Nat) (l : List Con) (w : World) (hL : RowAt 8 conCells w w.heap.size AL l) (hl : l.length = nl) (hnl : nl ≤ 200) :
    Calls Try.prog 17 #[.int .i64 vert, .slice AL nl cL] w (SolveRes w (solveTys vert l) (solveChs vert l) (solveErr vert l)) := by
  by_cases h : solveErr vert l = 0
  · obtain ⟨h0, h1, hok⟩ := err_zero h
    have hn : vert = ((vert.toNat : Nat) : Int) := by omega
    have h2 := rsolve_any vert.toNat AL nl cL l w hL hl (by rw [← hn]; exact h) hok (by omega) hnl
    rw [← hn] at h2
    rw [(tys_of h).1, (tys_of h).2, h]
    exact h2
  · have ht := tys_none h
    rw [ht.1, ht.2]
    have hval := valid_any vert AL nl cL l w hL hl (by omega)
    obtain ⟨er, her⟩ : ∃ x, solveErr vert l = x := ⟨_, rfl⟩
    rw [her] at hval h ⊢
    have hne : (er != 0) = true := by simpa using h
    have HVAL := Lib.hid hval
    clear hval her h ht
    go_enter Try.func17, Try.ntmps17
    go_wp2_with fail
    refine HVAL.out.mono ?_
    rintro e w1 ⟨rfl, hb1⟩
    go_wp2_with fail
    go_ret3
    exact ⟨none, 0, none, 0, rfl, fun k c hk => by simp at hk, fun k c hk => by simp at hk, hb1⟩

theorem chs_short {vert : Int} {l : List Con} {nl : Nat} (hf : fewB vert nl = true) : ∀ ch ∈ solveChs vert l, ch.length ≤ 1000000 := by
  intro ch hch
  by_cases h : solveErr vert l = 0
  · have hv : vert ≤ 60 := by
      have h1 := err_zero h
      simp [fewB] at hf
      omega
    obtain ⟨i, j, c, c', es, -, -, -, hlen, -⟩ := chain_facts h hv ch hch
    omega
  · rw [(tys_none h).2] at hch
    cases hch

set_option maxHeartbeats 4000000 in
set_option maxRecDepth 100000 in
theorem lawSolves_any (vert : Int) (AL : Option Addr) (nl cL : Nat) (l : List Con) (AC : Option Addr) (m cC : Nat) (ch : List Int) (w : World) (hL : RowAt 8 conCells w w.heap.size AL l) (hl : l.length = nl) (hcap : nl ≤ cL) (hcm : cL ≤ maxLen) (hfit : ∀ c ∈ l, c.tl < 9223372036854775808)
    (hC : RowAt 1 (fun z => [Value.int .i64 z]) w w.heap.size AC ch) (hcl : ch.length = m) :
    Calls Try.prog 7 #[.int .i64 vert, .slice AL nl cL, .slice AC m cC] w fun e w' => e = .returned (.bool true) ∧ Below w.heap.size w w' := by
  have hfew := few_any vert AL nl cL w (Nat.le_trans hcap hcm)
  have HL := Lib.hid hL
  have HLl := Lib.hid hl
  have HC := Lib.hid hC
  have HCl := Lib.hid hcl
  have HFIT := Lib.hid hfit
  have HFEW := Lib.hid hfew
  unfold maxLen at hcm
  clear hL hl hC hcl hfit hfew
  go_enter Try.func7, Try.ntmps7
  go_wp2_with fail
  refine HFEW.out.mono ?_
  rintro e w1 ⟨rfl, rfl⟩
  obtain ⟨fb, hfb⟩ : ∃ fb, fewB vert nl = fb := ⟨_, rfl⟩
  rw [hfb]
  have HFB := Lib.hid hfb
  clear hfb HFEW
  cases fb
  · go_wp2_with fail
    refine (awake_any _).mono ?_
    rintro e w1 ⟨rfl, hb⟩
    go_wp2_with fail
    go_ret
    exact ⟨rfl, hb⟩
  have hn80 : nl ≤ 80 := by
    have := HFB.out
    simp [fewB] at this
    exact this.1
  by_cases hm : 40 < m
  · have hm1 : (40 : Int) < (m : Int) := by omega
    go_wp2_with fail
    refine (awake_any _).mono ?_
    rintro e w1 ⟨rfl, hb⟩
    go_wp2_with fail
    go_ret
    exact ⟨rfl, hb⟩
  have hm1 : ¬ (40 : Int) < (m : Int) := by omega
  go_wp2_with fail
  refine (Solve_all vert AL nl cL l w HL.out HLl.out (by omega)).mono ?_
  rintro e w1 ⟨A1, c1, A2, c2, rfl, hT1, hC1, hb1⟩
  have hlens := solve_lens vert l
  have hself := tysEq_refl (solveTys vert l)
  have hshort := chs_short (l := l) HFB.out
  obtain ⟨tys, htys⟩ : ∃ x, solveTys vert l = x := ⟨_, rfl⟩
  obtain ⟨chs, hchs⟩ : ∃ x, solveChs vert l = x := ⟨_, rfl⟩
  obtain ⟨er, her⟩ : ∃ x, solveErr vert l = x := ⟨_, rfl⟩
  have hrs := RSolve_all vert AL nl cL l w1 ((HL.out.below hb1 (Nat.le_refl _)).mono hb1.size) HLl.out (by omega)
  rw [htys, hchs, her] at hrs
  rw [htys] at hT1 hlens hself
  rw [hchs] at hC1 hlens hshort
  rw [htys, hchs, her]
  obtain ⟨n1, hn1⟩ : ∃ x, tys.length = x := ⟨_, rfl⟩
  obtain ⟨n2, hn2⟩ : ∃ x, chs.length = x := ⟨_, rfl⟩
  rw [hn1, hn2] at hlens ⊢
  have HT1 := Lib.hid hT1
  have HC1 := Lib.hid hC1
  have HSELF := Lib.hid hself
  have HSHORT := Lib.hid hshort
  have HRS := Lib.hid hrs
  have HN1 := Lib.hid hn1
  have HN2 := Lib.hid hn2
  obtain ⟨hl1, hl2⟩ := hlens
  clear hT1 hC1 hself hshort hrs htys hchs her hn1 hn2
  go_wp2_with fail
  refine HRS.out.mono ?_
  rintro e w2 ⟨A3, c3, A4, c4, rfl, hT2, hC2, hb2⟩
  rw [HN1.out, HN2.out]
  have HT2 := Lib.hid hT2
  have HC2 := Lib.hid hC2
  clear hT2 hC2 HRS
  have hT1' := (HT1.out.below hb2 (Nat.le_refl _)).mono hb2.size
  have HT1' := Lib.hid hT1'
  clear hT1'
  go_wp2_with fail
  refine (Equal_any A1 A3 n1 n1 c1 c3 tys tys w2 HT1'.out HT2.out HN1.out HN1.out (by omega)).mono ?_
  rintro e w3 ⟨rfl, hb3⟩
  rw [HSELF.out]
  have hb23 : Below w1.heap.size w1 w3 := hb2.trans (hb3.mono hb2.size)
  go_wp2_with fail
  refine (Lists_any A2 A4 n2 n2 c2 c4 chs chs w3 ((HC1.out.later hb2).later hb3) (HC2.out.later hb3) HN2.out HN2.out (by omega) HSHORT.out).mono ?_
  rintro e w4 ⟨rfl, hb4⟩
  rw [show decide (chs = chs) = true from decide_eq_true rfl]
  have hb14 : Below w.heap.size w w4 := ((hb1.trans (hb2.mono hb1.size)).trans (hb3.mono (Nat.le_trans hb1.size hb2.size))).trans (hb4.mono (Nat.le_trans (Nat.le_trans hb1.size hb2.size) hb3.size))
  have HB14 := Lib.hid hb14
  clear hb1 hb2 hb3 hb4 hb23 hb14
  have herr : (er == er) = true := by simp
  go_wp2_with fail
  refine (Explain_any AL nl cL l AC m cC ch w4 (HL.out.later HB14.out) HLl.out (HC.out.later HB14.out) HCl.out (by omega) HFIT.out).mono ?_
  rintro e w5 ⟨A5, n5, c5, rfl, hn5, hr5, hb5⟩
  have HR5 := Lib.hid hr5
  have HN5 := Lib.hid hn5
  have HB5 := Lib.hid hb5
  have hb15 : Below w.heap.size w w5 := HB14.out.trans (hb5.mono HB14.out.size)
  have HB15 := Lib.hid hb15
  clear hr5 hn5 hb5 hb15
  go_wp2_with fail
  refine (ExplainR_any AL nl cL l AC m cC ch w5 (HL.out.later HB15.out) HLl.out (HC.out.later HB15.out) HCl.out (by omega) HFIT.out).mono ?_
  rintro e w6 ⟨A6, n6, c6, rfl, hn6, hr6, hb6⟩
  have hle5 : n5 ≤ 1000000 := by
    rw [← HN5.out]
    unfold explM
    split
    · exact Nat.le_trans expl_len (by rw [HCl.out]; omega)
    · simp
  have HR6 := Lib.hid hr6
  have HN6 := Lib.hid hn6
  have HB6 := Lib.hid hb6
  clear hr6 hn6 hb6
  go_wp2_with fail
  refine (Steps_eq A5 A6 n5 n6 c5 c6 (explM l ch) w6 (HR5.out.later HB6.out) HR6.out HN5.out HN6.out hle5).mono ?_
  rintro e w7 ⟨rfl, hb7⟩
  have HB7 := Lib.hid hb7
  clear hb7
  go_wp2_with fail
  refine (awake_any _).mono ?_
  rintro e w8 ⟨rfl, hb8⟩
  go_wp2_with fail
  go_ret
  have h6 : Below w.heap.size w w6 := HB15.out.trans (HB6.out.mono HB15.out.size)
  have h7 : Below w.heap.size w w7 := h6.trans (HB7.out.mono h6.size)
  exact ⟨rfl, h7.trans (hb8.mono h7.size)⟩

end Go.Proofs.Ytpdimehoepfgaaa
