/- (graph).chain, walked: it returns what the model says. -/
import Derived.Test.YtpdimehoepfgaaaChainM
namespace Go.Proofs.Ytpdimehoepfgaaa
open Go.RowKit

/-- What chain answers: no chain, or a slice of its own. -/
def ChainPost (w : World) (r : Option (List Int)) (e : Ending) (w' : World) : Prop :=
  match r with
  | none => e = .returned (.tuple #[.slice none 0 0, .bool false]) ∧ Below w.heap.size w w'
  | some out => ∃ v, e = .returned (.tuple #[v, .bool true]) ∧ OwnS w' w.heap.size 3 1 v out.length (ivs out) ∧ Below w.heap.size w w'

/-- What is known of the plain graph. -/
structure GraphOk (n nl : Nat) (l : List Con) (E : List (List Edge)) (M : Nat → List Nat) : Prop where
  lnl : l.length = nl
  en : E.length = n
  eto : ∀ es ∈ E, ∀ e ∈ es, e.to < n
  len : ∀ es ∈ E, es.length ≤ 1000000
  con : ∀ es ∈ E, ∀ e ∈ es, e.con < nl
  mark : ∀ v, ∀ j ∈ M v, j < nl
  mlen : ∀ v, (M v).length ≤ 1000000
  sym : ∀ u v, u < n → (∃ e ∈ E.getD u [], e.to = v) → ∃ e ∈ E.getD v [], e.to = u
  hn : n ≤ 5000
  hnl : nl ≤ 1000000

theorem row_one (w : World) (B g z : Nat) (hg : g < B) (h : w.cell? ⟨g, 0, none⟩ = some (.int .i64 (z : Int))) : RowAt 1 natCells w B (some ⟨g, 0, none⟩) [z] := by
  intro k c hk
  cases k with
  | zero =>
    simp at hk
    subst hk
    refine ⟨g, 0, rfl, hg, fun j v hj => ?_⟩
    cases j with
    | zero => simp [natCells] at hj; subst hj; exact h
    | succ j => simp [natCells] at hj
  | succ k => simp at hk

set_option maxHeartbeats 4000000 in
set_option maxRecDepth 100000 in
theorem chain_any (AL AE : Option Addr) (nl cL n cE r : Nat) (l : List Con) (E : List (List Edge)) (M : Nat → List Nat) (i s0 : Nat) (w : World)
    (hG : GraphAt w w.heap.size AL AE r l E M) (ok : GraphOk n nl l E M) (c : Con) (hc : l[i]? = some c) (hca : c.a = (s0 : Int)) (hs0 : s0 < n) :
    Calls Try.prog 30 #[.agg #[.slice AL nl cL, .slice AE n cE, .map (some r)], .int .i64 (i : Int)] w (ChainPost w (chainFrom E n (otherM l M i) i s0)) := by
  obtain ⟨i0, hi0, hz0, hz1, hz2⟩ := info_parts int_info
  have hil : i < nl := by rw [← ok.lnl]; exact (List.getElem?_eq_some_iff.1 hc).1
  have hn := ok.hn
  have hnl := ok.hnl
  obtain ⟨lb, loff, hA, hlb, hci⟩ := hG.cons i c hc
  subst hA
  have hc1 : w.cell? ⟨lb, loff + i * 8 + 1, none⟩ = some (.int .i64 (s0 : Int)) := by
    rw [← hca]; exact hci 1 _ rfl
  have HG := Lib.hid hG
  have OK := Lib.hid ok
  clear hci hc hca hG ok
  go_enter Try.func30, Try.ntmps30
  go_wp2_with fail
  generalize hW0 : w.alloc (.cells #[.slice (some ⟨lb, loff, none⟩) nl cL, .slice AE n cE, .map (some r)] 52) = W0
  have hWs : W0.heap.size = w.heap.size + 1 := by rw [← hW0]; simp
  have hWb : Below w.heap.size w W0 := by rw [← hW0]; exact below_alloc w _
  have hWB : Blk W0 w.heap.size 52 #[.slice (some ⟨lb, loff, none⟩) nl cL, .slice AE n cE, .map (some r)] := by rw [← hW0]; exact Blk.new w _ _
  have HWs := Lib.hid hWs
  have HWB := Lib.hid hWB
  clear hWs hWB hW0
  have hb0 : Below w.heap.size w (W0.alloc (.cells #[.int .i64 (s0 : Int)] 3)) := hWb.alloc (by have := HWs.out; omega) _
  refine (distances_any _ _ AE n cE E _ 1 1 [s0] (W0.alloc (.cells #[.int .i64 (s0 : Int)] 3)) ((HG.out.edges.below hb0 (Nat.le_refl _)).mono (by have := HWs.out; simp; omega)) OK.out.en OK.out.eto OK.out.len (row_one _ _ _ _ (by have := HWs.out; simp; omega) (by rw [← HWs.out]; simp)) rfl (by omega) (by simpa using hs0) hn (by omega)).mono ?_
  rintro e w1 ⟨gf, rfl, hgf, hIf, hb1⟩
  have hB1 : Below (w.heap.size + 1) W0 w1 := by
    have h1 := below_alloc W0 (.cells #[.int .i64 (s0 : Int)] 3)
    rw [HWs.out] at h1
    exact h1.trans (hb1.mono (by have := HWs.out; simp; omega))
  have hgf1 : gf < w1.heap.size := hIf.lt
  have hgf0 : w.heap.size + 1 ≤ gf := by have := HWs.out; simp at hgf; omega
  have hgc : w1.cell? ⟨w.heap.size, 1, none⟩ = some (.slice AE n cE) := (hB1.cell (p := ⟨w.heap.size, 1, none⟩) (by simp)).trans (HWB.out.cell 1)
  have HIf := Lib.hid hIf
  clear hb1 hgf hIf hb0
  go_wp2_with fail
  clear hgc
  go_loopg [34, 9, 8] n (fun gk s34 s9 s8 wr => ∃ k : Nat, k + gk = n ∧ s34 = .int .i64 k ∧ s9 = .int .i64 (targetsM (distM E n [s0]) (fun v => (otherM l M i v).isSome) k).1 ∧
    OwnS wr w1.heap.size 3 1 s8 (targetsM (distM E n [s0]) (fun v => (otherM l M i v).isSome) k).2.length (ivs ((targetsM (distM E n [s0]) (fun v => (otherM l M i v).isSome) k).2.map fun x : Nat => (x : Int))) ∧ Below w1.heap.size w1 wr)
  case atStart => exact ⟨0, by omega, rfl, rfl, OwnS.nil _ _ _ _, Below.refl _ _⟩
  case round =>
    obtain ⟨k, hk, rfl, rfl, hT, hB⟩ := hrel
    have hk' : k ≤ n := by omega
    have HK := Lib.hid hk
    have HT := Lib.hid hT
    clear hk hT
    have hspec := targets_spec (distM E n [s0]) (fun v => (otherM l M i v).isSome) k
    have hst := targets_take (distM E n [s0]) (fun v => (otherM l M i v).isSome) k
    have hI := HIf.out.below hB hgf1
    have hdd := distM_dist E n [s0] OK.out.eto (by simpa using hs0)
    by_cases hlt : k < n
    · have hfl := hdd.lo k hlt
      have hfc := hI.cell (i := k) (by rw [hdd.len]; exact hlt)
      have hbest := hspec.2.2.2
      have hlen := hspec.2.2.1
      have HST := Lib.hid hst
      clear hst hspec hI hdd
      generalize targetsM (distM E n [s0]) (fun v => (otherM l M i v).isSome) k = st at *
      obtain ⟨fv, hfv⟩ : ∃ fv, (distM E n [s0]).getD k 0 = fv := ⟨_, rfl⟩
      rw [hfv] at hfc hfl
      have HFV := Lib.hid hfv
      clear hfv
      obtain ⟨best, tg⟩ := st
      simp only at hbest hlen
      by_cases c1 : fv < 0
      · go_wp2_with fail
        go_roundg (gk - 1)
        case measure => have := HK.out; omega
        case rel =>
          have hstep : targetsM (distM E n [s0]) (fun v => (otherM l M i v).isSome) (k + 1) = (best, tg) := by
            rw [HST.out]; exact if_pos (.inl (by rw [HFV.out]; exact c1))
          refine ⟨k + 1, by have := HK.out; omega, by go_num, ?_⟩
          rw [hstep]
          exact ⟨rfl, HT.out, hB⟩
      by_cases c2 : 0 ≤ best ∧ best < fv
      · obtain ⟨c2, c3⟩ := c2
        go_wp2_with fail
        go_roundg (gk - 1)
        case measure => have := HK.out; omega
        case rel =>
          have hstep : targetsM (distM E n [s0]) (fun v => (otherM l M i v).isSome) (k + 1) = (best, tg) := by
            rw [HST.out]; exact if_pos (.inr (by rw [HFV.out]; exact ⟨c2, c3⟩))
          refine ⟨k + 1, by have := HK.out; omega, by go_num, ?_⟩
          rw [hstep]
          exact ⟨rfl, HT.out, hB⟩
      have hBw : Below w.heap.size w wr := hWb.trans ((hB1.mono (by omega)).trans (hB.mono (by omega)))
      have hBg := (HWB.out.below hB1 (by omega)).below hB (by omega)
      have hg0 := hBg.cell 0
      have hg1 := hBg.cell 1
      have hg2 := hBg.cell 2
      simp only [List.getElem?_toArray, List.getElem?_cons_zero, List.getElem?_cons_succ] at hg0 hg1 hg2
      have hszr : w.heap.size < wr.heap.size := hBg.lt
      have hlen2 : tg.length ≤ 5000 := by omega
      clear hBg
      have hcase : best < 0 ∨ (0 ≤ best ∧ fv < best) ∨ (0 ≤ best ∧ fv ≤ best ∧ best ≤ fv) := by omega
      clear c2
      rcases hcase with c4 | ⟨c4, c5⟩ | ⟨c4, c5, c6⟩
      all_goals
        go_wp2_with fail
        refine (other_any _ AE nl cL n cE r l E M i k wr (HG.out.later hBw) OK.out.lnl hil (OK.out.mark k) (OK.out.mlen k)).mono ?_
        rintro e w2 ⟨rfl, hb2⟩
        have hB2 : Below w1.heap.size w1 w2 := hB.trans (hb2.mono hB.size)
        have hT2 := HT.out.below hb2 (fun g hg => (HT.out.lt g hg).2)
        have hI2 := HIf.out.below hB2 hgf1
        have hfc2 := hI2.cell (i := k) (by rw [(distM_dist E n [s0] OK.out.eto (by simpa using hs0)).len]; exact hlt)
        rw [HFV.out] at hfc2
        have HT2 := Lib.hid hT2
        clear hb2 hg0 hg1 hg2 hBw hT2 hI2 hfc
        cases ho : otherM l M i k with
        | none =>
          have HO := Lib.hid ho
          clear ho
          simp only [Option.isSome_none, Option.getD_none]
          go_wp2_with fail
          go_roundg (gk - 1)
          case measure => have := HK.out; omega
          case rel =>
            have hstep : targetsM (distM E n [s0]) (fun v => (otherM l M i v).isSome) (k + 1) = (best, tg) := by
              rw [HST.out]
              unfold tstep
              rw [if_neg (by rw [HFV.out]; simp only; omega), if_pos (by show (otherM l M i k).isSome = false; rw [HO.out]; rfl)]
            refine ⟨k + 1, by have := HK.out; omega, by go_num, ?_⟩
            rw [hstep]
            exact ⟨rfl, HT2.out, hB2⟩
        | some j => ?_
      all_goals
        have HO := Lib.hid ho
        clear ho
        simp only [Option.isSome_some, Option.getD_some]
        have hstep : targetsM (distM E n [s0]) (fun v => (otherM l M i v).isSome) (k + 1) = if best < 0 ∨ fv < best then (fv, [k]) else (best, tg ++ [k]) := by
          rw [HST.out]
          unfold tstep
          rw [if_neg (by rw [HFV.out]; simp only; omega), if_neg (by show ¬ (otherM l M i k).isSome = false; rw [HO.out]; simp)]
          simp only [HFV.out]
        have HSTEP := Lib.hid hstep
        clear hstep HST
      · go_wp2_with (at_builtin; go_must (refine wpList_append_S _ rfl (.tmp 77) (.tmp 79) _ rfl w1.heap.size 3 i0 _ 1 8 Try.underlying33 hi0 hz0 hz1 hz2 rfl (.slice none 0 0) 0 [] rfl (OwnS.nil _ _ _ _) ⟨w2.heap.size, 0, none⟩ 1 1 [.int .i64 (k : Int)] rfl rfl (news_one _ _ _ (by go_simp)) (by simp [Value.oneCell']) (by simp only [maxLen]; omega) (by omega) (by have := hB2.size; simp; omega) ?_); intro v' w3 hown hgrow hat)
        go_roundg (gk - 1)
        case measure => have := HK.out; omega
        case rel =>
          refine ⟨k + 1, by have := HK.out; omega, by go_num, ?_⟩
          rw [HSTEP.out, if_pos (.inl c4)]
          exact ⟨rfl, by simpa using hown, Below.grown (hB2.alloc hB2.size _) hgrow (by have := hB2.size; simp; omega) (by simp [Value.ownBlock])⟩
      · go_wp2_with (at_builtin; go_must (refine wpList_append_S _ rfl (.tmp 77) (.tmp 79) _ rfl w1.heap.size 3 i0 _ 1 8 Try.underlying33 hi0 hz0 hz1 hz2 rfl (.slice none 0 0) 0 [] rfl (OwnS.nil _ _ _ _) ⟨w2.heap.size, 0, none⟩ 1 1 [.int .i64 (k : Int)] rfl rfl (news_one _ _ _ (by go_simp)) (by simp [Value.oneCell']) (by simp only [maxLen]; omega) (by omega) (by have := hB2.size; simp; omega) ?_); intro v' w3 hown hgrow hat)
        go_roundg (gk - 1)
        case measure => have := HK.out; omega
        case rel =>
          refine ⟨k + 1, by have := HK.out; omega, by go_num, ?_⟩
          rw [HSTEP.out, if_pos (.inr c5)]
          exact ⟨rfl, by simpa using hown, Below.grown (hB2.alloc hB2.size _) hgrow (by have := hB2.size; simp; omega) (by simp [Value.ownBlock])⟩
      · go_wp2_with (at_builtin; go_must (refine wpList_append_S _ rfl (.tmp 77) (.tmp 79) _ rfl w1.heap.size 3 i0 _ 1 8 Try.underlying33 hi0 hz0 hz1 hz2 rfl u8 tg.length (ivs (tg.map fun x : Nat => (x : Int))) rfl (by exact HT2.out.alloc _) ⟨w2.heap.size, 0, none⟩ 1 1 [.int .i64 (k : Int)] rfl rfl (news_one _ _ _ (by go_simp)) (by simp [Value.oneCell']) (by simp only [maxLen]; omega) (by omega) (by have := hB2.size; simp; omega) ?_); intro v' w3 hown hgrow hat)
        go_roundg (gk - 1)
        case measure => have := HK.out; omega
        case rel =>
          refine ⟨k + 1, by have := HK.out; omega, by go_num, ?_⟩
          rw [HSTEP.out, if_neg (by omega)]
          exact ⟨rfl, by simpa using hown, Below.grown (hB2.alloc hB2.size _) hgrow (by have := hB2.size; simp; omega) (fun g hg => (HT2.out.lt g hg).1)⟩
    · have hkn : k = n := by omega
      subst hkn
      generalize hst0 : targetsM (distM E k [s0]) (fun v => (otherM l M i v).isSome) k = st at *
      obtain ⟨best, tg⟩ := st
      have HST := Lib.hid hst0
      clear hst hst0 HK hI hdd hk'
      simp only at hspec
      have hbest : -1 ≤ best := hspec.2.2.2
      have hlen : tg.length ≤ k := hspec.2.2.1
      have hiff := hspec.2.1
      have htg : ∀ v ∈ tg, v < k := fun v hv => (hspec.1 v hv).1
      have htf : ∀ v ∈ tg, (distM E k [s0]).getD v 0 = best := fun v hv => (hspec.1 v hv).2.2
      have HTF := Lib.hid htf
      have HTG := Lib.hid htg
      have HIFF := Lib.hid hiff
      clear hspec htg hiff htf
      by_cases c0 : best < 0
      · go_wp2_with fail
        go_ret2
        have hres : chainFrom E k (otherM l M i) i s0 = none := by
          unfold chainFrom
          rw [HST.out, if_pos c0]
        rw [hres]
        exact ⟨rfl, hWb.trans ((hB1.mono (by omega)).trans (hB.mono (by omega)))⟩
      · have hne : tg ≠ [] := fun h => c0 (HIFF.out.2 h)
        have hpos : 0 < tg.length := List.length_pos_iff.2 hne
        have hBw : Below w.heap.size w wr := hWb.trans ((hB1.mono (by omega)).trans (hB.mono (by omega)))
        have hBg := (HWB.out.below hB1 (by omega)).below hB (by omega)
        have hg0 := hBg.cell 0
        have hg1 := hBg.cell 1
        have hg2 := hBg.cell 2
        simp only [List.getElem?_toArray, List.getElem?_cons_zero, List.getElem?_cons_succ] at hg0 hg1 hg2
        obtain ⟨At, ct, hAt, _, _⟩ := HT.out.shape
        have hrow : RowAt 1 natCells wr wr.heap.size At tg := HT.out.rowAt hAt (ivs_flat tg) (by intro c _; rfl) rfl
        subst hAt
        go_wp2_with fail
        refine (distances_any _ _ AE k cE E At tg.length ct tg wr (HG.out.later hBw).edges OK.out.en OK.out.eto OK.out.len hrow rfl hpos HTG.out hn (by omega)).mono ?_
        rintro e w2 ⟨gl, rfl, hgl, hIl, hb2⟩
        have hB2 : Below w1.heap.size w1 w2 := hB.trans (hb2.mono hB.size)
        have hgl1 : gl < w2.heap.size := hIl.lt
        have hdl := distM_dist E k tg OK.out.eto HTG.out
        have hle := distM_le E k tg OK.out.eto HTG.out
        have hres : chainFrom E k (otherM l M i) i s0 = some ((walkM E (distM E k tg) ((distM E k tg).getD s0 0).toNat s0 [(i : Int)]).2 ++ [(((otherM l M i (walkM E (distM E k tg) ((distM E k tg).getD s0 0).toNat s0 [(i : Int)]).1).getD 0 : Nat) : Int)]) := by
          unfold chainFrom
          rw [HST.out, if_neg (by simp only; omega)]
        have HRES := Lib.hid hres
        have HIl := Lib.hid hIl
        clear hrow hb2 hB hg0 hg1 hg2 hBg hBw hIl hres HT
        generalize distM E k tg = left at *
        have hlm : ∀ v, v < k → left.getD v 0 ≤ 10000 := fun v hv => by
          have := hle _ (getD_mem (l := left) (i := v) (by rw [hdl.len]; exact hv))
          have h1 := hn
          have h2 := hlen
          omega
        have HDL := Lib.hid hdl
        have HLM := Lib.hid hlm
        clear hdl hle hlm
        go_wp2_with fail
        have hl0 : 0 ≤ left.getD s0 0 := by
          obtain ⟨t0, ht0⟩ := List.exists_mem_of_ne_nil tg hne
          have h1 := HTF.out t0 ht0
          exact reach_back (distM_dist E k [s0] OK.out.eto (by simpa using hs0)) HDL.out OK.out.sym best.toNat t0 (HTG.out t0 ht0) (by omega) (by rw [(HDL.out.zero t0 (HTG.out t0 ht0)).2 ht0]; omega)
        go_loopg [14, 15] (left.getD s0 0).toNat (fun gk s14 s15 wr => ∃ v outl, v < k ∧ left.getD v 0 = (gk : Int) ∧ s15 = .int .i64 (v : Nat) ∧ OwnS wr w2.heap.size 3 1 s14 outl.length (ivs outl) ∧ Below w2.heap.size w2 wr ∧
          walkM E left gk v outl = walkM E left (left.getD s0 0).toNat s0 [(i : Int)] ∧ outl.length + gk ≤ 10001)
        case atStart =>
          have h1 := HLM.out s0 hs0
          refine ⟨s0, [(i : Int)], hs0, by omega, rfl, ?_, below_alloc _ _, rfl, by show 1 + (left.getD s0 0).toNat ≤ 10001; omega⟩
          exact OwnS.block (n := 1) (cur := #[.int .i64 (i : Int)]) (Nat.le_refl _) (heap_alloc_new _ _) (by simp [maxLen]) rfl
        case round =>
          obtain ⟨v, outl, hv, hlv, rfl, hO, hB3, hwk, hol⟩ := hrel
          have HO := Lib.hid hO
          have HLV := Lib.hid hlv
          have HWK := Lib.hid hwk
          clear hO hlv hwk
          have hI3 := HIl.out.below hB3 hgl1
          have hcl := hI3.cell (i := v) (by rw [HDL.out.len]; exact hv)
          rw [HLV.out] at hcl
          have hBw : Below w.heap.size w wr := hWb.trans ((hB1.mono (by omega)).trans ((hB2.mono (by omega)).trans (hB3.mono (by have := hB2.size; omega))))
          have hBg := ((HWB.out.below hB1 (by omega)).below hB2 (by omega)).below hB3 (by have := hB2.size; omega)
          have hg0 := hBg.cell 0
          have hg1 := hBg.cell 1
          have hg2 := hBg.cell 2
          simp only [List.getElem?_toArray, List.getElem?_cons_zero, List.getElem?_cons_succ] at hg0 hg1 hg2
          have hgs : w.heap.size < wr.heap.size := hBg.lt
          have hgls : gl < wr.heap.size := hI3.lt
          clear hBg
          by_cases hp : 0 < gk
          · have hvE : v < E.length := by rw [OK.out.en]; exact hv
            have hev : E[v]? = some E[v] := List.getElem?_eq_getElem hvE
            obtain ⟨eb, eoff, Ai, ci, hA, heb, hec, her⟩ := (HG.out.later hBw).edges v _ hev
            subst hA
            have hel : E[v].length ≤ 1000000 := OK.out.len _ (List.getElem_mem hvE)
            have het : ∀ e ∈ E[v], e.to < k := OK.out.eto _ (List.getElem_mem hvE)
            have hEv : E.getD v [] = E[v] := by rw [List.getD_eq_getElem?_getD, hev]; rfl
            have hnx := nextM_spec HDL.out OK.out.sym hv (by rw [HLV.out]; omega)
            have hnm : nextM E left v = E[v].foldl (nstep left v) (-1, 0) := by unfold nextM; rw [hEv]
            have HNX := Lib.hid hnx
            have HNM := Lib.hid hnm
            have HET := Lib.hid het
            have HER := Lib.hid her
            clear hnx hnm het her hev hEv
            generalize E[v] = es at *
            go_wp2_with fail
            clear hec
            obtain ⟨wo, rfl⟩ : ∃ wo : World, wo = wr := ⟨_, rfl⟩
            obtain ⟨gv, rfl⟩ : ∃ gv : Nat, gv = gk := ⟨_, rfl⟩
            go_loopg [102] es.length (fun gk2 s102 wx => ∃ q : Nat, q + gk2 = es.length ∧ s102 = .int .i64 q ∧ Blk wx wo.heap.size 55 #[.int .i64 ((es.take q).foldl (nstep left v) (-1, 0)).1, .int .i64 ((es.take q).foldl (nstep left v) (-1, 0)).2] ∧ Below wo.heap.size wo wx)
            case atStart => exact ⟨0, by omega, rfl, Blk.new _ _ _, below_alloc _ _⟩
            case round =>
              obtain ⟨q, hq, rfl, hN, hBx⟩ := hrel
              have hq' : q ≤ es.length := by omega
              have HQ := Lib.hid hq
              clear hq
              have hgnx : wo.heap.size < wr.heap.size := hN.lt
              have hn0 := hN.cell 0
              have hn1 := hN.cell 1
              simp only [List.getElem?_toArray, List.getElem?_cons_zero, List.getElem?_cons_succ] at hn0 hn1
              have HN := Lib.hid hN
              clear hN
              by_cases hlt2 : q < es.length
              · have heq : es[q]? = some es[q] := List.getElem?_eq_getElem hlt2
                obtain ⟨ib, ioff, hA, hib, hic⟩ := (HER.out.below hBx (Nat.le_refl _)) q _ heq
                subst hA
                have hc0 : wr.cell? ⟨ib, ioff + q * 2, none⟩ = some (.int .i64 (es[q].con : Int)) := hic 0 _ rfl
                have hc1 : wr.cell? ⟨ib, ioff + q * 2 + 1, none⟩ = some (.int .i64 (es[q].to : Int)) := hic 1 _ rfl
                have hton : es[q].to < k := HET.out _ (List.getElem_mem hlt2)
                have hstep := foldl_take_succ (nstep left v) (-1, 0) es q _ heq
                have HS := Lib.hid hstep
                have hIx := hI3.below hBx hgls
                have hce := hIx.cell (i := es[q].to) (by rw [HDL.out.len]; exact hton)
                have hcv := hIx.cell (i := v) (by rw [HDL.out.len]; exact hv)
                rw [HLV.out] at hcv
                have hlo := HDL.out.lo _ hton
                have hhi := HLM.out _ hton
                have hibs : ib < wr.heap.size := by omega
                have hgls2 : gl < wr.heap.size := by omega
                have hgb : (gv : Int) ≤ 10000 := by rw [← HLV.out]; exact HLM.out v hv
                clear hic heq hstep hIx
                generalize es[q] = ed at *
                generalize List.foldl (nstep left v) (-1, 0) (List.take q es) = nx at *
                obtain ⟨de, hde⟩ : ∃ de, left.getD ed.to 0 = de := ⟨_, rfl⟩
                rw [hde] at hce hlo hhi
                have HDE := Lib.hid hde
                clear hde
                obtain ⟨na, nb⟩ := nx
                simp only at hn0 hn1
                have hton2 : (ed.to : Int) < (k : Int) := by omega
                have hvk2 : (v : Int) < (k : Int) := by omega
                by_cases cA : de = (gv : Int) - 1
                · have hA : (de == (gv : Int) - 1) = true := by simpa using cA
                  have hcs : na < 0 ∨ (0 ≤ na ∧ (ed.con : Int) < na) ∨ (0 ≤ na ∧ na ≤ (ed.con : Int)) := by omega
                  have hf0 := HN.out.frozen 0
                  have hf1 := HN.out.frozen 1
                  rcases hcs with c1 | ⟨c1, c2⟩ | ⟨c1, c2⟩
                  · go_wp2_with fail
                    go_quiet (fail)
                    go_wp2_with fail
                    go_roundg (gk - 1)
                    case measure => have := HQ.out; omega
                    case rel =>
                      refine ⟨q + 1, by have := HQ.out; omega, by go_num, ?_⟩
                      rw [HS.out, show nstep left v (na, nb) ed = ((ed.con : Int), (ed.to : Int)) from if_pos (by rw [HDE.out, HLV.out]; exact ⟨cA, .inl c1⟩)]
                      have hN0 := HN.out
                      exact ⟨by (refine Blk.set2 (a := .int .i64 na) (b := .int .i64 nb) ?_ _ _; (repeat (first | assumption | refine Blk.drew ?_ | refine Blk.drewN ?_ _ | refine Blk.alloc ?_ _ | refine Blk.far ?_ (by first | assumption | omega | (simp; omega)) _))), by (repeat (first | exact Below.refl _ _ | assumption | refine Below.trans ?_ (Below.mono (by assumption) (by first | omega | (simp; done) | (simp; omega))) | refine Below.alloc ?_ (by first | omega | (simp; done) | (simp; omega)) _ | refine Below.setCell ?_ (by first | omega | (simp; done) | (simp; omega)) _ | refine Below.drew ?_ | refine below_drewN ?_ _))⟩
                  · have hd1 : decide (na < 0) = false := by simp; omega
                    go_wp2_with fail
                    go_quiet (fail)
                    go_wp2_with fail
                    go_roundg (gk - 1)
                    case measure => have := HQ.out; omega
                    case rel =>
                      refine ⟨q + 1, by have := HQ.out; omega, by go_num, ?_⟩
                      rw [HS.out, show nstep left v (na, nb) ed = ((ed.con : Int), (ed.to : Int)) from if_pos (by rw [HDE.out, HLV.out]; exact ⟨cA, .inr c2⟩)]
                      have hN0 := HN.out
                      exact ⟨by (refine Blk.set2 (a := .int .i64 na) (b := .int .i64 nb) ?_ _ _; (repeat (first | assumption | refine Blk.drew ?_ | refine Blk.drewN ?_ _ | refine Blk.alloc ?_ _ | refine Blk.far ?_ (by first | assumption | omega | (simp; omega)) _))), by (repeat (first | exact Below.refl _ _ | assumption | refine Below.trans ?_ (Below.mono (by assumption) (by first | omega | (simp; done) | (simp; omega))) | refine Below.alloc ?_ (by first | omega | (simp; done) | (simp; omega)) _ | refine Below.setCell ?_ (by first | omega | (simp; done) | (simp; omega)) _ | refine Below.drew ?_ | refine below_drewN ?_ _))⟩
                  · have hd1 : decide (na < 0) = false := by simp; omega
                    go_wp2_with fail
                    go_quiet (fail)
                    go_wp2_with fail
                    go_roundg (gk - 1)
                    case measure => have := HQ.out; omega
                    case rel =>
                      refine ⟨q + 1, by have := HQ.out; omega, by go_num, ?_⟩
                      rw [HS.out, show nstep left v (na, nb) ed = (na, nb) from if_neg (by simp only; omega)]
                      have hN0 := HN.out
                      exact ⟨by (repeat (first | assumption | refine Blk.drew ?_ | refine Blk.drewN ?_ _ | refine Blk.alloc ?_ _ | refine Blk.far ?_ (by first | assumption | omega | (simp; omega)) _)), by (repeat (first | exact Below.refl _ _ | assumption | refine Below.trans ?_ (Below.mono (by assumption) (by first | omega | (simp; done) | (simp; omega))) | refine Below.alloc ?_ (by first | omega | (simp; done) | (simp; omega)) _ | refine Below.setCell ?_ (by first | omega | (simp; done) | (simp; omega)) _ | refine Below.drew ?_ | refine below_drewN ?_ _))⟩
                · have hA : (de == (gv : Int) - 1) = false := by simpa using cA
                  have HCA := Lib.hid cA
                  clear cA
                  go_wp2_with fail
                  go_quiet (fail)
                  go_wp2_with fail
                  go_roundg (gk - 1)
                  case measure => have := HQ.out; omega
                  case rel =>
                    refine ⟨q + 1, by have := HQ.out; omega, by go_num, ?_⟩
                    rw [HS.out, show nstep left v (na, nb) ed = (na, nb) from if_neg (by rw [HDE.out, HLV.out]; exact fun h => HCA.out h.1)]
                    have hN0 := HN.out
                    exact ⟨by (repeat (first | assumption | refine Blk.drew ?_ | refine Blk.drewN ?_ _ | refine Blk.alloc ?_ _ | refine Blk.far ?_ (by first | assumption | omega | (simp; omega)) _)), by (repeat (first | exact Below.refl _ _ | assumption | refine Below.trans ?_ (Below.mono (by assumption) (by first | omega | (simp; done) | (simp; omega))) | refine Below.alloc ?_ (by first | omega | (simp; done) | (simp; omega)) _ | refine Below.setCell ?_ (by first | omega | (simp; done) | (simp; omega)) _ | refine Below.drew ?_ | refine below_drewN ?_ _))⟩
              · have hqn : q = es.length := by omega
                have hnx2 := HNX.out
                rw [HNM.out] at hnx2
                obtain ⟨ed, hed, hne2, hnd, _⟩ := hnx2
                have hN2 := HN.out
                rw [hqn, List.take_length, hne2] at hN2 hn0 hn1
                simp only at hN2 hn0 hn1
                have hwk : walkM E left gv v outl = walkM E left (gv - 1) ed.to (outl ++ [(ed.con : Int)]) := by
                  obtain ⟨g', rfl⟩ : ∃ g', gv = g' + 1 := ⟨gv - 1, by omega⟩
                  rw [walkM, if_pos (by rw [HLV.out]; omega), HNM.out, hne2]
                  simp
                have HWK2 := Lib.hid hwk
                have hton : ed.to < k := by
                  have h1 := getD_edges OK.out.eto v ed hed
                  exact h1
                have HED := Lib.hid hnd
                have HN2 := Lib.hid hN2
                clear hwk hnd hN2 HN hne2 hed hqn HQ
                have hO2 := HO.out.below hBx (fun g hg => (HO.out.lt g hg).2)
                have HO2 := Lib.hid hO2
                clear hO2
                go_wp2_with fail
                go_region_held3 (fun w' => w'.cell? ⟨wo.heap.size, 0, none⟩ = some (.int .i64 (ed.con : Int)) ∧ w'.cell? ⟨wo.heap.size, 1, none⟩ = some (.int .i64 (ed.to : Int))) (first | go_keep | (refine ⟨?_, ?_⟩ <;> (rw [hgrow.cell_far _ (by simp; omega) (fun e => by have := (HO.out.lt _ e.symm).2; simp at this)]; go_simp))) ((refine step_append_S _ (by rfl) (.tmp 131) (.tmp 134) _ (by rfl) w2.heap.size 3 i0 _ 1 8 Try.underlying33 hi0 hz0 hz1 hz2 (by rfl) u14 outl.length (ivs outl) (by rfl) (by have hO0 := HO2.out; (repeat (first | assumption | refine OwnS.drew ?_ | refine OwnS.drewN ?_ _ | refine OwnS.alloc ?_ _ | refine OwnS.setCell ?_ (by assumption) _))) ⟨wr.heap.size, 0, none⟩ 1 1 [.int .i64 (ed.con : Int)] (by rfl) (by rfl) (news_one _ _ _ (by go_simp)) (by simp [Value.oneCell']) (by simp only [maxLen]; omega) (by omega) (by have := hB3.size; simp; omega) ?_; intro v' w3 hown hgrow hat))
                go_wp2_with fail
                go_roundg (gv - 1)
                case measure => omega
                case rel =>
                  refine ⟨ed.to, outl ++ [(ed.con : Int)], hton, by rw [HED.out, HLV.out]; omega, rfl, by simpa [ivs] using hown, ?_, HWK2.out.symm.trans HWK.out, by simp; omega⟩
                  have hBy : Below w2.heap.size w2 wr := hB3.trans (hBx.mono hB3.size)
                  have hsy := hBy.size
                  exact Below.grown (by (repeat (first | exact Below.refl _ _ | assumption | refine Below.trans ?_ (Below.mono (by assumption) (by first | omega | (simp; done) | (simp; omega))) | refine Below.alloc ?_ (by first | omega | (simp; done) | (simp; omega)) _ | refine Below.setCell ?_ (by first | omega | (simp; done) | (simp; omega)) _ | refine Below.drew ?_ | refine below_drewN ?_ _))) hgrow (by simp; omega) (fun g hg => (HO.out.lt g hg).1)
          · go_wp2_with fail
            refine (other_any _ AE nl cL k cE r l E M i v wr (HG.out.later hBw) OK.out.lnl hil (OK.out.mark v) (OK.out.mlen v)).mono ?_
            rintro e w3 ⟨rfl, hb3⟩
            have hO3 := HO.out.below hb3 (fun g hg => (HO.out.lt g hg).2)
            have HO3 := Lib.hid hO3
            have hB4 : Below w2.heap.size w2 w3 := hB3.trans (hb3.mono hB3.size)
            have hwk2 : (v, outl) = walkM E left (left.getD s0 0).toNat s0 [(i : Int)] := by
              have h0 : gk = 0 := by omega
              rw [← HWK.out, h0]
              rfl
            have HWK2 := Lib.hid hwk2
            clear hO3 hb3 hwk2
            generalize hov : otherM l M i v = ov
            have HOV := Lib.hid hov
            clear hov
            go_wp2_with (at_builtin; go_must (refine wpList_append_S _ rfl (.tmp 145) (.tmp 147) _ rfl w2.heap.size 3 i0 _ 1 8 Try.underlying33 hi0 hz0 hz1 hz2 rfl u14 outl.length (ivs outl) rfl (by exact HO3.out.alloc _) ⟨w3.heap.size, 0, none⟩ 1 1 [.int .i64 ((ov.getD 0 : Nat) : Int)] rfl rfl (news_one _ _ _ (by go_simp)) (by simp [Value.oneCell']) (by simp only [maxLen]; omega) (by omega) (by have := hB4.size; simp; omega) ?_); intro v' w4 hown hgrow hat)
            go_ret2
            rw [HRES.out, ← HWK2.out]
            refine ⟨v', rfl, ?_, ?_⟩
            · have h1 : OwnS w4 w.heap.size 3 1 v' (outl.length + 1) (ivs outl ++ [.int .i64 ((ov.getD 0 : Nat) : Int)]) := hown.mono (by have := hB1.size; have := hB2.size; have := HWs.out; omega)
              simp only [HOV.out]
              simpa [ivs] using h1
            · have hBz : Below w.heap.size w w3 := hWb.trans ((hB1.mono (by omega)).trans ((hB2.mono (by omega)).trans (hB4.mono (by have := hB2.size; omega))))
              exact Below.grown (hBz.alloc hBz.size _) hgrow (by have := hBz.size; simp; omega) (fun g hg => by have := (HO.out.lt g hg).1; have := hB1.size; have := hB2.size; have := HWs.out; omega)

end Go.Proofs.Ytpdimehoepfgaaa
