/- The reference's Solve, walked. -/
import Derived.Test.YtpdimehoepfgaaaRSolA
namespace Go.Proofs.Ytpdimehoepfgaaa
open Go.RowKit

set_option maxHeartbeats 4000000 in
set_option maxRecDepth 100000 in
theorem rsolve_any (n : Nat) (AL : Option Addr) (nl cL : Nat) (l : List Con) (w : World) (hL : RowAt 8 conCells w w.heap.size AL l) (hl : l.length = nl) (he : solveErr (n : Int) l = 0) (hok : Ok l n) (hn : n ≤ 4096) (hnl : nl ≤ 200) :
    Calls Try.prog 17 #[.int .i64 (n : Int), .slice AL nl cL] w (SolveRes w (solveUpto l n n).out (solveUpto l n n).chains 0) := by
  obtain ⟨i0, hi0, hz0, hz1, hz2⟩ := info_parts int_info
  obtain ⟨k0, hk0, hk1, hk2z, hk3⟩ := info_parts ints_info
  have hval := valid_any (n : Int) AL nl cL l w hL hl (by omega)
  rw [he] at hval
  have HVAL := Lib.hid hval
  have HTY := Lib.hid (run_make_tys n (by omega))
  have HBO := Lib.hid (run_make_one 37 4 _ 1 Try.underlying37 bool_info rfl (by omega) n (by omega))
  have HL := Lib.hid hL
  have HLl := Lib.hid hl
  have HOK := Lib.hid hok
  clear hval hL hl hok he
  go_enter Try.func17, Try.ntmps17
  go_wp2_with fail
  refine HVAL.out.mono ?_
  rintro e w1 ⟨rfl, hb1⟩
  have hmkT := HTY.out
  have hmkB := HBO.out
  go_wp2_with fail
  clear hmkT hmkB HTY HBO HVAL
  generalize hW2 : ((w1.alloc (.cells ((List.replicate n zeroTy).flatMap tyCells).toArray 23)).alloc (.cells #[] 33)).alloc (.cells (Array.replicate n (.bool false)) 4) = W2
  have hW2s : W2.heap.size = w1.heap.size + 1 + 1 + 1 := by rw [← hW2]; simp
  have hW2b : Below w1.heap.size w1 W2 := by rw [← hW2]; (repeat (first | exact Below.refl _ _ | assumption | refine Below.trans ?_ (Below.mono (by assumption) (by first | omega | (simp; done) | (simp; omega))) | refine Below.alloc ?_ (by first | omega | (simp; done) | (simp; omega)) _ | refine Below.setCell ?_ (by first | omega | (simp; done) | (simp; omega)) _ | refine Below.drew ?_ | refine below_drewN ?_ _))
  have hW2t : TysBlk W2 w1.heap.size (solveUpto l n 0).out := by rw [← hW2]; exact ((Blk.new _ _ _).alloc _).alloc _
  have hW2c : ChainsOwn W2 (w1.heap.size + 1) (.slice (some ⟨w1.heap.size + 1, 0, none⟩) 0 0) (solveUpto l n 0).chains := by
    have hh := Blk.new (w1.alloc (.cells ((List.replicate n zeroTy).flatMap tyCells).toArray 23)) 33 #[]
    rw [World.size_alloc] at hh
    have hh2 := hh.alloc (.cells (Array.replicate n (.bool false)) 4)
    rw [hW2] at hh2
    exact ⟨[], OwnS.block (n := 0) (cur := #[]) (Nat.le_refl _) hh2 (by simp [maxLen]) rfl, fun j ch hj => by simp [solveUpto] at hj⟩
  have hW2o : BoolsBlk W2 (w1.heap.size + 1 + 1) (solveUpto l n 0).seen := by
    have hh := Blk.new ((w1.alloc (.cells ((List.replicate n zeroTy).flatMap tyCells).toArray 23)).alloc (.cells #[] 33)) 4 (Array.replicate n (.bool false))
    rw [World.size_alloc, World.size_alloc, hW2] at hh
    simpa [BoolsBlk, solveUpto] using hh
  have HW2s := Lib.hid hW2s
  have HW2t := Lib.hid hW2t
  have HW2o := Lib.hid hW2o
  have HW2c := Lib.hid hW2c
  clear hW2s hW2t hW2o hW2c hW2
  go_loopg [9, 11] n (fun gk s9 s11 wr => ∃ k2 : Nat, k2 + gk = n ∧ s11 = .int .i64 k2 ∧ TysBlk wr w1.heap.size (solveUpto l n k2).out ∧ BoolsBlk wr (w1.heap.size + 1 + 1) (solveUpto l n k2).seen ∧ ChainsOwn wr (w1.heap.size + 1) s9 (solveUpto l n k2).chains ∧ Below w1.heap.size w1 wr ∧ w1.heap.size + 3 ≤ wr.heap.size)
  case atStart => exact ⟨0, by omega, rfl, HW2t.out, HW2o.out, HW2c.out, hW2b, by have := HW2s.out; omega⟩
  case round =>
    obtain ⟨v, hk2, rfl, hT, hB, hC, hBo, hzw⟩ := hrel
    have hk2' : v ≤ n := by omega
    have HK2 := Lib.hid hk2
    have HT := Lib.hid hT
    have HB := Lib.hid hB
    have HC := Lib.hid hC
    clear hk2 hT hB hC
    have hBow : Below w.heap.size w wr := hb1.trans (hBo.mono hb1.size)
    have hws := hb1.size
    have hsz0 : w1.heap.size < wr.heap.size := by omega
    have hsz2 : w1.heap.size + 1 + 1 < wr.heap.size := by omega
    obtain ⟨hlo, hls, hlc⟩ := solveUpto_len l n v
    have HLO := Lib.hid hlo
    have HLS := Lib.hid hls
    clear hlo hls
    by_cases hlt2 : v < n
    · have hcs := HB.out.cell (i := v) (by rw [HLS.out]; exact hlt2)
      obtain ⟨sn, hsn⟩ : ∃ sn, (solveUpto l n v).seen.getD v false = sn := ⟨_, rfl⟩
      rw [hsn] at hcs
      have HSN := Lib.hid hsn
      have hstep := rsolve_eq HOK.out hlt2
      have HSTEP := Lib.hid hstep
      clear hsn hstep
      have hvi : (v : Int) < (n : Int) := by omega
      cases sn
      · go_wp2_with fail
        refine (rdist_any n v AL nl cL l wr ((HL.out.below hBow (Nat.le_refl _)).mono hBow.size) HLl.out HOK.out hlt2 hn hnl).mono ?_
        rintro e w3 ⟨gc, rfl, hgc, hIc, hb3⟩
        have HIc := Lib.hid hIc
        have hgcl : gc < w3.heap.size := hIc.lt
        have hz3 := hb3.size
        have HT3 := Lib.hid (show TysBlk w3 _ _ from Blk.below HT.out hb3 hsz0)
        have HB3 := Lib.hid (show BoolsBlk w3 _ _ from Blk.below HB.out hb3 hsz2)
        have HC3 := Lib.hid (HC.out.since (Since.below (Since.refl (fun _ => False) wr) hb3) (by intro g h; cases h))
        have hBo3 : Below w1.heap.size w1 w3 := hBo.trans (hb3.mono (by omega))
        have hBow3 : Below w.heap.size w w3 := hb1.trans (hBo3.mono hb1.size)
        clear hIc HT HB HC hcs
        go_wp2_with fail
        generalize hW4 : (w3.alloc (.cells #[] 3)).alloc (.cells #[.int .i64 0, .int .i64 0, .string ⟨#[]⟩] 23) = W4
        have hW4s : W4.heap.size = w3.heap.size + 1 + 1 := by rw [← hW4]; simp
        have hW4b : Below w3.heap.size w3 W4 := by rw [← hW4]; (repeat (first | exact Below.refl _ _ | assumption | refine Below.trans ?_ (Below.mono (by assumption) (by first | omega | (simp; done) | (simp; omega))) | refine Below.alloc ?_ (by first | omega | (simp; done) | (simp; omega)) _ | refine Below.setCell ?_ (by first | omega | (simp; done) | (simp; omega)) _ | refine Below.drew ?_ | refine below_drewN ?_ _))
        have hW4t : Blk W4 (w3.heap.size + 1) 23 (tyVals zeroTy) := by
          have hh := Blk.new (w3.alloc (.cells #[] 3)) 23 (tyVals zeroTy)
          rw [World.size_alloc] at hh
          rw [← hW4]
          exact hh
        have hW4o : OwnS W4 w3.heap.size 3 1 (.slice (some ⟨w3.heap.size, 0, none⟩) 0 0) 0 [] := by
          rw [← hW4]
          exact OwnS.block (n := 0) (cur := #[]) (Nat.le_refl _) ((Blk.new w3 3 #[]).alloc _) (by simp [maxLen]) rfl
        have HW4t := Lib.hid hW4t
        have HW4o := Lib.hid hW4o
        have HW4s := Lib.hid hW4s
        clear hW4t hW4o hW4s hW4
        obtain ⟨wo, rfl⟩ : ∃ wo : World, wo = wr := ⟨_, rfl⟩
        obtain ⟨go, rfl⟩ : ∃ go : Nat, go = gk := ⟨_, rfl⟩
        go_loopg [13, 15] nl (fun gk s13 s15 wr => ∃ k : Nat, k + gk = nl ∧ s15 = .int .i64 k ∧ OwnS wr w3.heap.size 3 1 s13 (rbest l n v k).1.length (ivs (rbest l n v k).1) ∧ Blk wr (w3.heap.size + 1) 23 (tyVals (rbest l n v k).2) ∧ Since (fun g => g = w3.heap.size + 1) W4 wr)
        case atStart => exact ⟨0, by omega, rfl, HW4o.out, HW4t.out, Since.refl _ _⟩
        case round =>
          obtain ⟨k, hk, rfl, hO, hty, hS4⟩ := hrel
          have hk' : k ≤ nl := by omega
          have HK := Lib.hid hk
          have HO := Lib.hid hO
          have HTYB := Lib.hid hty
          have hw4s := HW4s.out
          have hz4 := hS4.size
          have hB4 : Below w3.heap.size w3 wr := hW4b.trans (hS4.toBelow (by omega) (by intro g hg; omega))
          have hB4w : Below w.heap.size w wr := hBow3.trans (hB4.mono hBow3.size)
          have hgts : w3.heap.size + 1 < wr.heap.size := by omega
          clear hk hO hw4s
          by_cases hlt : k < nl
          ·
            have hkl : k < l.length := by rw [HLl.out]; exact hlt
            have hlk : l[k]? = some l[k] := List.getElem?_eq_getElem hkl
            obtain ⟨lb, loff, hA, hlb, hlc⟩ := (HL.out.below hB4w (Nat.le_refl _)) k _ hlk
            subst hA
            have hlcc : ∀ (w' : World), Below w.heap.size w w' → ∀ q d, l[q]? = some d → ∀ r z, (conCells d)[r]? = some z → w'.cell? ⟨lb, loff + q * 8 + r, none⟩ = some z := fun w' hb q d hq r z hr => by
              obtain ⟨b', off', he, _, hc⟩ := (HL.out.below hb (Nat.le_refl _)) q d hq
              cases he
              exact hc r z hr
            have HLCC := Lib.hid hlcc
            have hmem := List.mem_of_getElem? hlk
            have HLK := Lib.hid hlk
            have hki : (k : Int) < (nl : Int) := by omega
            have hlbs : lb < wr.heap.size := by have := hB4w.size; omega
            have hrs := rbest_succ (l := l) (n := n) (v := v) k
            clear hlk hlcc
            generalize l[k] = d at *
            have hc0 : wr.cell? ⟨lb, loff + k * 8, none⟩ = some (.int .i64 d.kind) := hlc 0 _ rfl
            have hc3 : wr.cell? ⟨lb, loff + k * 8 + 3, none⟩ = some (.int .i64 d.tk) := hlc 3 _ rfl
            have hc4 : wr.cell? ⟨lb, loff + k * 8 + 3 + 1, none⟩ = some (.int .i64 d.tl) := hlc 4 _ rfl
            have hc5 : wr.cell? ⟨lb, loff + k * 8 + 3 + 2, none⟩ = some (.string d.tr) := hlc 5 _ rfl
            by_cases hkd : d.kind = 0
            · have hm := ok_mark HOK.out hmem hkd
              have hkb : (d.kind != 0) = false := by simp [hkd]
              obtain ⟨a, ha⟩ : ∃ a, d.a.toNat = a := ⟨_, rfl⟩
              have hda : d.a = (a : Int) := by omega
              have han : a < n := by omega
              have hani : (a : Int) < (n : Int) := by omega
              have hc1 : wr.cell? ⟨lb, loff + k * 8 + 1, none⟩ = some (.int .i64 (a : Int)) := by rw [← hda]; exact hlc 1 _ rfl
              have hIr := HIc.out.below hB4 hgcl
              have hca := hIr.cell (i := a) (by have := (dd_dist HOK.out hlt2).len; unfold ddL; omega)
              obtain ⟨da, hdd⟩ : ∃ da, (ddL l n v).getD a 0 = da := ⟨_, rfl⟩
              rw [hdd] at hca
              have hdd2 : dd l n v d.a.toNat = da := by rw [ha]; exact hdd
              have hgcs : gc < wr.heap.size := by have := hB4.size; omega
              by_cases hd0 : da < 0
              · have hst : rbest l n v (k + 1) = rbest l n v k := by rw [hrs]; exact kstep_skip HLK.out (.inr (by rw [hdd2]; exact hd0))
                have HST := Lib.hid hst
                clear hst hrs hlc hda ha hdd hdd2 hkd hm hIr hty
                go_wp2_with fail
                go_roundg (gk - 1)
                case measure => have := HK.out; omega
                case rel =>
                  refine ⟨k + 1, by have := HK.out; omega, by go_num, ?_, ?_, hS4⟩
                  · rw [HST.out]; exact HO.out
                  · rw [HST.out]; exact HTYB.out
              · have hst : rbest l n v (k + 1) = ((List.range k).foldl (istep l n v k d) (rbest l n v k).1, if d.tk ≠ 5 ∧ d.tk ≠ 6 then d.mark else (rbest l n v k).2) := by rw [hrs]; exact kstep_go HLK.out hkd (by rw [hdd2]; omega)
                have HST := Lib.hid hst
                have HDA := Lib.hid ha
                have HDV := Lib.hid hdd2
                have HKD := Lib.hid hkd
                have ht0 : wr.cell? ⟨w3.heap.size + 1, 0, none⟩ = some (.int .i64 (rbest l n v k).2.k) := hty.cell 0
                have ht1 : wr.cell? ⟨w3.heap.size + 1, 1, none⟩ = some (.int .i64 (rbest l n v k).2.n) := hty.cell 1
                have ht2 : wr.cell? ⟨w3.heap.size + 1, 2, none⟩ = some (.string (rbest l n v k).2.r) := hty.cell 2
                have hf0 := hty.frozen 0
                have hf1 := hty.frozen 1
                have hf2 := hty.frozen 2
                clear hst hrs hlc hda ha hdd hdd2 hkd hm hIr hty
                -- the type first, by a cut
                have htk : (d.tk != 5) = false ∨ ((d.tk != 5) = true ∧ (d.tk != 6) = false) ∨ ((d.tk != 5) = true ∧ (d.tk != 6) = true) := by
                  cases (d.tk != 5) <;> cases (d.tk != 6) <;> simp
                obtain ⟨wp, rfl⟩ : ∃ wp : World, wp = wr := ⟨_, rfl⟩
                obtain ⟨gp, rfl⟩ : ∃ gp : Nat, gp = gk := ⟨_, rfl⟩
                go_upto_region 18 with fail
                obtain ⟨tb, htb⟩ : ∃ tb, decide (d.tk ≠ 5 ∧ d.tk ≠ 6) = tb := ⟨_, rfl⟩
                have HTB := Lib.hid htb
                clear htb
                go_cut [84] (fun s84 wx => s84 = .bool tb ∧ wp = wx)
                case first =>
                  rcases htk with h5 | ⟨h5, h6⟩ | ⟨h5, h6⟩
                  · have e : tb = false := by rw [← HTB.out]; simp at h5; simp [h5]
                    subst e
                    go_wp2_with fail
                    go_meet
                    exact ⟨rfl, rfl⟩
                  · have e : tb = false := by rw [← HTB.out]; simp at h6; simp [h6]
                    subst e
                    go_wp2_with fail
                    go_meet
                    exact ⟨rfl, rfl⟩
                  · have e : tb = true := by rw [← HTB.out]; simp at h5 h6; simp [h5, h6]
                    subst e
                    go_wp2_with fail
                    go_meet
                    exact ⟨rfl, rfl⟩
                case rest =>
                  obtain ⟨rfl, rfl⟩ := hcut
                  go_upto_if 84 with fail
                  obtain ⟨nt, hnt⟩ : ∃ nt, (if d.tk ≠ 5 ∧ d.tk ≠ 6 then d.mark else (rbest l n v k).2) = nt := ⟨_, rfl⟩
                  have HNT := Lib.hid hnt
                  clear hnt
                  go_cut [] (fun wx => Blk wx (w3.heap.size + 1) 23 (tyVals nt) ∧ Since (fun g => g = w3.heap.size + 1) wp wx)
                  case first =>
                    cases tb
                    · have e : nt = (rbest l n v k).2 := HNT.out.symm.trans (if_neg (of_decide_eq_false HTB.out))
                      have HE := Lib.hid e
                      clear e
                      go_wp2_with fail
                      go_meet
                      rw [HE.out]
                      exact ⟨HTYB.out, Since.refl _ _⟩
                    · have e : nt = d.mark := HNT.out.symm.trans (if_pos (of_decide_eq_true HTB.out))
                      have HE := Lib.hid e
                      clear e
                      go_wp2_with fail
                      go_meet
                      rw [HE.out]
                      exact ⟨HTYB.out.set3 _ _ _, by have h1 := Since.refl (fun g => g = w3.heap.size + 1) wp; (repeat (first | assumption | refine Since.drew ?_ | refine Since.drewN ?_ _ | refine Since.alloc ?_ _ | refine Since.setCell ?_ (by first | assumption | (simp; done) | (simp; omega) | omega) _))⟩
                  case rest =>
                    obtain ⟨hty2, hS5⟩ := hcut
                    have HTY2 := Lib.hid hty2
                    have HS5 := Lib.hid hS5
                    have hB5 : Below w3.heap.size wp wc := hS5.toBelow (by omega) (by intro g hg; omega)
                    have hO5 : OwnS wc w3.heap.size 3 1 u13 (rbest l n v k).1.length (ivs (rbest l n v k).1) := HO.out.since hS5 (fun g hg e => HO.out.ne_blk HTYB.out (by decide) (by rw [hg, e]))
                    have HO5 := Lib.hid hO5
                    have hz5 := hS5.size
                    clear hty2 hS5 hO5 ht0 ht1 ht2 hf0 hf1 hf2 htk hc0 hc1 hc3 hc4 hc5 hca
                    go_wp2_with fail
                    generalize hW6 : wc.alloc (.cells #[] 3) = W6
                    have hW6b : Below wc.heap.size wc W6 := by rw [← hW6]; (repeat (first | exact Below.refl _ _ | assumption | refine Below.trans ?_ (Below.mono (by assumption) (by first | omega | (simp; done) | (simp; omega))) | refine Below.alloc ?_ (by first | omega | (simp; done) | (simp; omega)) _ | refine Below.setCell ?_ (by first | omega | (simp; done) | (simp; omega)) _ | refine Below.drew ?_ | refine below_drewN ?_ _))
                    have hW6s : wc.heap.size < W6.heap.size := by rw [← hW6]; simp
                    clear hW6
                    have hO6 := HO5.out.below hW6b (fun g hg => (HO5.out.lt g hg).2)
                    have HO6 := Lib.hid hO6
                    clear hO6
                    go_loopg [13, 16, 17] k (fun gk s13 s16 s17 wr => ∃ i : Nat, i + gk = k ∧ s17 = .int .i64 i ∧ OwnS wr w3.heap.size 3 1 s13 ((List.range i).foldl (istep l n v k d) (rbest l n v k).1).length (ivs ((List.range i).foldl (istep l n v k d) (rbest l n v k).1)) ∧ ToR wr n (ddL l n a) wc.heap.size s16 ∧ Below W6.heap.size W6 wr)
                    case atStart => exact ⟨0, by omega, rfl, HO6.out, .inl ⟨_, _, rfl⟩, Below.refl _ _⟩
                    case round =>
                      obtain ⟨i, hi, rfl, hO7, hTo, hB7⟩ := hrel
                      have hi' : i ≤ k := by omega
                      have HI := Lib.hid hi
                      have HO7 := Lib.hid hO7
                      have HTO := Lib.hid hTo
                      have hB7s := hB7.size
                      have hB7p : Below w3.heap.size w3 wr := (hB4.trans (hB5.mono (Nat.le_refl _))).trans ((hW6b.mono (by omega)).trans (hB7.mono (by omega)))
                      have hB7w : Below w.heap.size w wr := hBow3.trans (hB7p.mono hBow3.size)
                      have hB7ws := hB7w.size
                      clear hi hO7 hTo
                      by_cases hlt3 : i < k
                      · have hil : i < l.length := by rw [HLl.out]; omega
                        have hli : l[i]? = some l[i] := List.getElem?_eq_getElem hil
                        have hsn : (List.range (i + 1)).foldl (istep l n v k d) (rbest l n v k).1 = istep l n v k d ((List.range i).foldl (istep l n v k d) (rbest l n v k).1) i := by rw [List.range_succ, List.foldl_append]; rfl
                        have hlci := HLCC.out wr hB7w i _ hli
                        have hlck := HLCC.out wr hB7w k _ HLK.out
                        have hmemi := List.mem_of_getElem? hli
                        have HLI := Lib.hid hli
                        have hii : (i : Int) < (nl : Int) := by omega
                        have hikk : (i : Int) < (k : Int) := by omega
                        clear hli
                        generalize l[i] = c at *
                        generalize (List.range i).foldl (istep l n v k d) (rbest l n v k).1 = bi at *
                        have hx0 : wr.cell? ⟨lb, loff + i * 8, none⟩ = some (.int .i64 c.kind) := hlci 0 _ rfl
                        have hlbs7 : lb < wr.heap.size := by omega
                        by_cases hkc : c.kind = 0
                        · have hmi := ok_mark HOK.out hmemi hkc
                          obtain ⟨b, hb⟩ : ∃ b, c.a.toNat = b := ⟨_, rfl⟩
                          have hcb : c.a = (b : Int) := by omega
                          have hbn : b < n := by omega
                          have hbni : (b : Int) < (n : Int) := by omega
                          rw [hkc] at hx0
                          have hx1 : wr.cell? ⟨lb, loff + i * 8 + 1, none⟩ = some (.int .i64 (b : Int)) := by rw [← hcb]; exact hlci 1 _ rfl
                          have hx3 : wr.cell? ⟨lb, loff + i * 8 + 3, none⟩ = some (.int .i64 c.tk) := hlci 3 _ rfl
                          have hx4 : wr.cell? ⟨lb, loff + i * 8 + 3 + 1, none⟩ = some (.int .i64 c.tl) := hlci 4 _ rfl
                          have hx5 : wr.cell? ⟨lb, loff + i * 8 + 3 + 2, none⟩ = some (.string c.tr) := hlci 5 _ rfl
                          have hy3 : wr.cell? ⟨lb, loff + k * 8 + 3, none⟩ = some (.int .i64 d.tk) := hlck 3 _ rfl
                          have hy4 : wr.cell? ⟨lb, loff + k * 8 + 3 + 1, none⟩ = some (.int .i64 d.tl) := hlck 4 _ rfl
                          have hy5 : wr.cell? ⟨lb, loff + k * 8 + 3 + 2, none⟩ = some (.string d.tr) := hlck 5 _ rfl
                          have hcl := (HIc.out.below hB7p hgcl).cell (i := b) (by have := (dd_dist HOK.out hlt2).len; unfold ddL; omega)
                          obtain ⟨db, hdb⟩ : ∃ db, (ddL l n v).getD b 0 = db := ⟨_, rfl⟩
                          rw [hdb] at hcl
                          have hdb2 : dd l n v c.a.toNat = db := by rw [hb]; exact hdb
                          have hgcs7 : gc < wr.heap.size := by have := hB7p.size; omega
                          have HDB := Lib.hid hdb2
                          have HSNI := Lib.hid hsn
                          have HKC := Lib.hid hkc
                          have HCB := Lib.hid hb
                          clear hdb hdb2 hsn hlci hlck hmi hcb hkc hb
                          by_cases hdn : db < 0
                          · have hst := HSNI.out.trans (istep_skip HLI.out (.inr (.inl (by rw [HDB.out]; exact hdn))))
                            have HST3 := Lib.hid hst
                            clear hst
                            go_wp2_with fail
                            go_quiet (fail)
                            go_wp2_with fail
                            go_roundg (gk - 1)
                            case measure => have := HI.out; omega
                            case rel =>
                              refine ⟨i + 1, by have := HI.out; omega, by go_num, ?_, ?_, by (repeat (first | exact Below.refl _ _ | assumption | refine Below.trans ?_ (Below.mono (by assumption) (by first | omega | (simp; done) | (simp; omega))) | refine Below.alloc ?_ (by first | omega | (simp; done) | (simp; omega)) _ | refine Below.setCell ?_ (by first | omega | (simp; done) | (simp; omega)) _ | refine Below.drew ?_ | refine below_drewN ?_ _))⟩
                              · rw [HST3.out]; have hO0 := HO7.out; (repeat (first | assumption | refine OwnS.drew ?_ | refine OwnS.drewN ?_ _ | refine OwnS.alloc ?_ _ | refine OwnS.setCell ?_ (by assumption) _))
                              · exact HTO.out.below (by (repeat (first | exact Below.refl _ _ | assumption | refine Below.trans ?_ (Below.mono (by assumption) (by first | omega | (simp; done) | (simp; omega))) | refine Below.alloc ?_ (by first | omega | (simp; done) | (simp; omega)) _ | refine Below.setCell ?_ (by first | omega | (simp; done) | (simp; omega)) _ | refine Below.drew ?_ | refine below_drewN ?_ _)))
                          · have hdd0 : decide (db < 0) = false := by simpa using hdn
                            as_aux_lemma =>
                              have hKS : ∀ w' : World, Below wr.heap.size wr w' → w'.cell? ⟨lb, loff + i * 8, none⟩ = some (.int .i64 0) ∧ w'.cell? ⟨lb, loff + i * 8 + 1, none⟩ = some (.int .i64 (b : Int)) ∧ w'.cell? ⟨lb, loff + i * 8 + 3, none⟩ = some (.int .i64 c.tk) ∧ w'.cell? ⟨lb, loff + i * 8 + 3 + 1, none⟩ = some (.int .i64 c.tl) ∧ w'.cell? ⟨lb, loff + i * 8 + 3 + 2, none⟩ = some (.string c.tr) ∧ w'.cell? ⟨lb, loff + k * 8 + 3, none⟩ = some (.int .i64 d.tk) ∧ w'.cell? ⟨lb, loff + k * 8 + 3 + 1, none⟩ = some (.int .i64 d.tl) ∧ w'.cell? ⟨lb, loff + k * 8 + 3 + 2, none⟩ = some (.string d.tr) ∧ w'.cell? ⟨gc, b, none⟩ = some (.int .i64 db) := fun w' hb => ⟨(hb.cell (p := ⟨lb, _, none⟩) hlbs7).trans hx0, (hb.cell (p := ⟨lb, _, none⟩) hlbs7).trans hx1, (hb.cell (p := ⟨lb, _, none⟩) hlbs7).trans hx3, (hb.cell (p := ⟨lb, _, none⟩) hlbs7).trans hx4, (hb.cell (p := ⟨lb, _, none⟩) hlbs7).trans hx5, (hb.cell (p := ⟨lb, _, none⟩) hlbs7).trans hy3, (hb.cell (p := ⟨lb, _, none⟩) hlbs7).trans hy4, (hb.cell (p := ⟨lb, _, none⟩) hlbs7).trans hy5, (hb.cell (p := ⟨gc, _, none⟩) hgcs7).trans hcl⟩
                              have HKS := Lib.hid hKS
                              have hBd : Below wr.heap.size wr wr.drew := (Below.refl _ _).drew
                              have hy1 : wr.cell? ⟨lb, loff + k * 8 + 1, none⟩ = some (.int .i64 (a : Int)) := by
                                have h1 := HLCC.out wr hB7w k _ HLK.out 1 _ rfl
                                rw [← HDA.out]
                                have h2 := (ok_mark HOK.out (List.mem_of_getElem? HLK.out) HKD.out).1
                                rw [Int.toNat_of_nonneg h2]
                                exact h1
                              clear hKS hx0 hx3 hx4 hx5 hy3 hy4 hy5 hcl
                              go_wp2_with fail
                              go_region_held3 (fun w' => w'.cell? ⟨lb, loff + i * 8, none⟩ = some (.int .i64 0) ∧ w'.cell? ⟨lb, loff + i * 8 + 1, none⟩ = some (.int .i64 (b : Int)) ∧ w'.cell? ⟨lb, loff + i * 8 + 3, none⟩ = some (.int .i64 c.tk) ∧ w'.cell? ⟨lb, loff + i * 8 + 3 + 1, none⟩ = some (.int .i64 c.tl) ∧ w'.cell? ⟨lb, loff + i * 8 + 3 + 2, none⟩ = some (.string c.tr) ∧ w'.cell? ⟨lb, loff + k * 8 + 3, none⟩ = some (.int .i64 d.tk) ∧ w'.cell? ⟨lb, loff + k * 8 + 3 + 1, none⟩ = some (.int .i64 d.tl) ∧ w'.cell? ⟨lb, loff + k * 8 + 3 + 2, none⟩ = some (.string d.tr) ∧ w'.cell? ⟨gc, b, none⟩ = some (.int .i64 db)) ((exact HKS.out _ (by assumption))) ((go_at_call 9; refine (ExcludeR_any _ _ _ _ _ _ _).mono ?_; rintro e w8 ⟨rfl, hb8⟩; have hB8 := bstep (W0 := wr) (by assumption) hb8))
                              clear HKS hb8
                              obtain ⟨ex, hex⟩ : ∃ ex, exclB c.tk c.tl c.tr d.tk d.tl d.tr = ex := ⟨_, rfl⟩
                              rw [hex]
                              have HEX := Lib.hid hex
                              clear hex
                              have hz8 := hB8.size
                              cases ex
                              · have hst := HSNI.out.trans (istep_skip HLI.out (.inr (.inr HEX.out)))
                                have HST3 := Lib.hid hst
                                clear hst
                                go_wp2_with fail
                                go_roundg (gk - 1)
                                case measure => have := HI.out; omega
                                case rel =>
                                  refine ⟨i + 1, by have := HI.out; omega, by go_num, ?_, ?_, hB7.trans (hB8.mono hB7s)⟩
                                  · rw [HST3.out]; exact HO7.out.below hB8 (fun g hg => (HO7.out.lt g hg).2)
                                  · exact HTO.out.below hB8
                              · obtain ⟨At, mt, ct, hs16, hto⟩ := HTO.out.form
                                subst hs16
                                have HTOF := Lib.hid hto
                                obtain ⟨hc8, hf8⟩ := bcell hB8
                                obtain ⟨wk, rfl⟩ : ∃ wk : World, wk = wc := ⟨_, rfl⟩
                                clear hto
                                go_upto_if 129 with fail
                                go_cut [16] (fun s16 wx => ∃ g, s16 = .slice (some ⟨g, 0, none⟩) n n ∧ IntsBlk wx g (ddL l n a) ∧ wk.heap.size ≤ g ∧ Below wr.heap.size wr wx)
                                case first =>
                                  rcases HTOF.out with rfl | ⟨rfl, g, rfl, rfl, hIg, hlg⟩
                                  · go_wp2_with fail
                                    refine (rdist_any n a _ nl cL l w8 ((HL.out.below hB7w (Nat.le_refl _)).mono hB7ws |>.later hB8) HLl.out HOK.out han hn hnl).mono ?_
                                    rintro e w9 ⟨g, rfl, hg9, hIg, hb9⟩
                                    go_wp2_with fail
                                    go_meet
                                    exact ⟨g, rfl, hIg, by omega, hB8.trans (hb9.mono hz8)⟩
                                  · have hm0 : (ct == 0) = false := by simp; omega
                                    have hm1 : ((ct : Int) == 0) = false := by simp; omega
                                    have HIG := Lib.hid hIg
                                    clear hIg
                                    go_wp2_with fail
                                    go_meet
                                    exact ⟨g, rfl, HIG.out.below hB8 HIG.out.lt, hlg, hB8⟩
                                case rest =>
                                  obtain ⟨g, rfl, hIg, hlg, hBq⟩ := hcut
                                  obtain ⟨wq, rfl⟩ : ∃ wq : World, wq = wc := ⟨_, rfl⟩
                                  have hBqs := hBq.size
                                  have hgl := hIg.lt
                                  have hxb : wq.cell? ⟨lb, loff + i * 8 + 1, none⟩ = some (.int .i64 (b : Int)) := (hBq.cell (p := ⟨lb, _, none⟩) hlbs7).trans hx1
                                  have htc := hIg.cell (i := b) (by have := (dd_dist HOK.out han).len; unfold ddL; omega)
                                  have hpair : PairC l n v i k c d := ⟨HLI.out, HLK.out, HKC.out, HKD.out, hlt3, HEX.out, by rw [HDB.out]; omega, by rw [HDV.out]; omega⟩
                                  have hpl := hpair.len HOK.out hlt2
                                  have hcand : cand l n i k c d = (i : Int) :: (wayM l n b a ++ [(k : Int)]) := by unfold cand; rw [HDA.out, HCB.out]
                                  rw [HDA.out, HCB.out] at hpl
                                  have htop := dd_top HOK.out han b
                                  obtain ⟨tt, htt⟩ : ∃ x, dd l n a b = x := ⟨_, rfl⟩
                                  have htc2 : wq.cell? ⟨g, b, none⟩ = some (.int .i64 tt) := by rw [← htt]; exact htc
                                  rw [htt] at hpl htop
                                  have hOq := HO7.out.below hBq (fun g hg => (HO7.out.lt g hg).2)
                                  obtain ⟨A13, c13, hv13, -, -⟩ := hOq.shape
                                  subst hv13
                                  obtain ⟨nb, hnb⟩ : ∃ x, bi.length = x := ⟨_, rfl⟩
                                  rw [hnb] at hOq ⊢
                                  have HNB := Lib.hid hnb
                                  have HOQ := Lib.hid hOq
                                  have HTT := Lib.hid htt
                                  have HCAND := Lib.hid hcand
                                  have hcl := hpl.2
                                  have HCLN := Lib.hid hcl
                                  have htt0 := hpl.1
                                  have hlbq : lb < wq.heap.size := by omega
                                  obtain ⟨fb, hfb⟩ : ∃ fb, decide (bi ≠ [] ∧ (bi.length : Int) < tt + 2) = fb := ⟨_, rfl⟩
                                  have HFB := Lib.hid hfb
                                  have hb0 : bi ≠ [] ↔ 0 < nb := by rw [← hnb]; exact List.length_pos_iff.symm
                                  have HB0 := Lib.hid hb0
                                  clear hb0 hfb hcl hpl hpair hcand htt htc hnb hOq hc8 hf8 hx1
                                  have HIG := Lib.hid (show IntsBlk wq g (ddL l n a) from by assumption)
                                  go_upto_region 27 with fail
                                  go_cut [154] (fun s154 wx => s154 = .bool fb ∧ wq = wx)
                                  case first =>
                                    by_cases hnb0 : nb = 0
                                    · have e : fb = false := by
                                        rw [← HFB.out]
                                        exact decide_eq_false (fun h => by have := HB0.out.1 h.1; omega)
                                      subst e
                                      subst hnb0
                                      go_wp2_with fail
                                      go_meet
                                      exact ⟨rfl, rfl⟩
                                    · have hnbp : (0 : Int) < (nb : Int) := by omega
                                      by_cases hfar : (nb : Int) < tt + 2
                                      · have e : fb = true := by
                                          rw [← HFB.out]
                                          exact decide_eq_true ⟨HB0.out.2 (by omega), by rw [HNB.out]; exact hfar⟩
                                        subst e
                                        go_wp2_with fail
                                        go_meet
                                        exact ⟨rfl, rfl⟩
                                      · have e : fb = false := by
                                          rw [← HFB.out]
                                          exact decide_eq_false (fun h => by have h2 := h.2; rw [HNB.out] at h2; exact hfar h2)
                                        subst e
                                        go_wp2_with fail
                                        go_meet
                                        exact ⟨rfl, rfl⟩
                                  case rest =>
                                    obtain ⟨rfl, rfl⟩ := hcut
                                    cases fb
                                    · have hst := HSNI.out.trans (istep_go HLI.out HKC.out (by rw [HDB.out]; omega) HEX.out (by rw [HDA.out, HCB.out, HTT.out]; exact of_decide_eq_false HFB.out))
                                      rw [HCAND.out] at hst
                                      have HST3 := Lib.hid hst
                                      obtain ⟨wl, hwl⟩ : ∃ x, wayM l n b a = x := ⟨_, rfl⟩
                                      have HWL := Lib.hid hwl
                                      have hwll : wl.length ≤ 4100 := by
                                        have h1 := HCLN.out
                                        rw [HCAND.out, hwl] at h1
                                        simp at h1
                                        omega
                                      have HRL := Lib.hid ((HL.out.below hB7w (Nat.le_refl _)).mono hB7ws |>.later hBq)
                                      clear hst hwl
                                      go_wp2_with fail
                                      have hBa : Below wq.heap.size wq (wq.alloc (.cells #[.int .i64 (i : Int)] 3)) := (Below.refl _ _).alloc (Nat.le_refl _) _
                                      refine (way_any n b a _ nl cL l _ n _ (HRL.out.later hBa) HLl.out HOK.out hbn han (by rw [HTT.out]; exact htt0) hn hnl (IntsBlk.row (HIG.out.alloc _))).mono ?_
                                      rintro e wa ⟨va, rfl, hOw, hbw⟩
                                      rw [HWL.out] at hOw
                                      obtain ⟨nw, hnw⟩ : ∃ x, wl.length = x := ⟨_, rfl⟩
                                      rw [hnw] at hOw hwll
                                      have HNW := Lib.hid hnw
                                      obtain ⟨Aw, cw, hvw, -, -⟩ := hOw.shape
                                      subst hvw
                                      have hOi : OwnS wa wq.heap.size 3 1 (.slice (some ⟨wq.heap.size, 0, none⟩) 1 1) 1 [.int .i64 (i : Int)] := (OwnS.block (Nat.le_refl _) (Blk.new wq 3 #[.int .i64 (i : Int)]) (by simp [maxLen]) rfl).below hbw (fun g hg => by simp [Value.ownBlock] at hg; simp; omega)
                                      have hwa : wq.heap.size + 1 ≤ wa.heap.size := by have := hbw.size; simp at this; exact this
                                      have HOW := Lib.hid hOw
                                      have HOI := Lib.hid hOi
                                      have HBW := Lib.hid hbw
                                      clear hOw hOi hbw hnw
                                      have hkl4 : k ≤ 4100 := by omega
                                      go_wp2_with (first
                                        | (at_builtin; refine wpList_append_Q _ rfl (.tmp 156) (.tmp 164) _ rfl wq.heap.size 3 i0 _ 1 8 Try.underlying33 hi0 hz0 hz1 hz2 rfl (by decide) _ 1 _ rfl HOI.out Aw nw cw (ivs wl) rfl (by rw [← HNW.out]; simp [ivs]) HOW.out.newsZ (ints_one _) (by simp only [maxLen]; omega) (by omega) (by omega) ?_; intro v1 w5 hown5 hgrow5 hat5; have hz5 := hgrow5.size; have HO5 := Lib.hid hown5; have HG5 := Lib.hid hgrow5; clear hown5 hgrow5 hat5)
                                        | (at_builtin; refine wpList_append_S _ rfl (.tmp 166) (.tmp 168) _ rfl wq.heap.size 3 i0 _ 1 8 Try.underlying33 hi0 hz0 hz1 hz2 rfl _ (1 + nw) _ rfl (HO5.out.alloc _) ⟨w5.heap.size, 0, none⟩ 1 1 [.int .i64 (k : Int)] rfl rfl (news_one _ _ _ (by go_simp)) (by simp [Value.oneCell']) (by simp only [maxLen]; omega) (by omega) (by simp; omega) ?_; intro v2 w6 hown6 hgrow6 hat6; have hz6 := hgrow6.size; simp at hz6; obtain ⟨A6, c6, hv6, -, -⟩ := hown6.shape; subst hv6; have HO6' := Lib.hid hown6; have HG6 := Lib.hid hgrow6; clear hown6 hgrow6 hat6))
                                      have hSq : Since (fun g => wq.heap.size ≤ g) wq w6 := ((((((Since.refl (fun g => wq.heap.size ≤ g) wq).alloc (.cells #[.int .i64 (i : Int)] 3)).below HBW.out).grown HG5.out (fun g hg => .inl (HOI.out.lt g hg).1)).alloc (.cells #[.int .i64 (k : Int)] 3)).grown HG6.out (fun g hg => .inl (HO5.out.lt g hg).1))
                                      have hq6 : Below wq.heap.size wq w6 := hSq.toBelow (Nat.le_refl _) (fun g hg => hg)
                                      have hcr : [Value.int .i64 (i : Int)] ++ ivs wl ++ [Value.int .i64 (k : Int)] = ivs ((i : Int) :: (wl ++ [(k : Int)])) := by simp [ivs]
                                      have ho6 := HO6'.out
                                      rw [hcr] at ho6
                                      have hcl6 : ((i : Int) :: (wl ++ [(k : Int)])).length = 1 + nw + 1 := by rw [List.length_cons, List.length_append, HNW.out]; simp; omega
                                      have hob := HOQ.out.below hq6 (fun g hg => (HOQ.out.lt g hg).2)
                                      have HO7' := Lib.hid ho6
                                      have HOB := Lib.hid hob
                                      have HCL6 := Lib.hid hcl6
                                      clear ho6 hob hcr hSq hcl6
                                      refine (before_any A6 A13 (1 + nw + 1) nb c6 c13 ((i : Int) :: (wl ++ [(k : Int)])) bi w6 (HO7'.out.rowAt rfl (ivs_flat' _) (by intro c _; rfl) HCL6.out) (HOB.out.rowAt rfl (ivs_flat' _) (by intro c _; rfl) HNB.out) HCL6.out HNB.out (by omega)).mono ?_
                                      rintro e w8 ⟨rfl, hb8⟩
                                      have hq8 : Below wq.heap.size wq w8 := hq6.trans (hb8.mono hq6.size)
                                      have HQ8 := Lib.hid hq8
                                      have hO8a := HO7'.out.below hb8 (fun g hg => (HO7'.out.lt g hg).2)
                                      have hO8b := HOB.out.below hb8 (fun g hg => (HOB.out.lt g hg).2)
                                      have HO8A := Lib.hid hO8a
                                      have HO8B := Lib.hid hO8b
                                      have hst3 := HST3.out
                                      rw [HWL.out] at hst3
                                      obtain ⟨ch, hch⟩ : ∃ x, (i : Int) :: (wl ++ [(k : Int)]) = x := ⟨_, rfl⟩
                                      rw [hch] at hst3 HO8A HCL6 ⊢
                                      obtain ⟨bb, hbb⟩ : ∃ x, beforeB ch bi = x := ⟨_, rfl⟩
                                      rw [hbb] at hst3 ⊢
                                      have HST4 := Lib.hid hst3
                                      clear hq6 hq8 hO8a hO8b hst3 hch hbb hb8
                                      cases bb
                                      · go_wp2_with fail
                                        go_roundg (gk - 1)
                                        case measure => have := HI.out; omega
                                        case rel =>
                                          refine ⟨i + 1, by have := HI.out; omega, by go_num, ?_, ?_, hB7.trans ((hBq.trans (HQ8.out.mono hBqs)).mono hB7s)⟩
                                          · rw [HST4.out, if_neg (by simp), HNB.out]; exact HO8B.out
                                          · exact .inr ⟨g, rfl, HIG.out.below HQ8.out HIG.out.lt, hlg⟩
                                      · go_wp2_with fail
                                        go_roundg (gk - 1)
                                        case measure => have := HI.out; omega
                                        case rel =>
                                          refine ⟨i + 1, by have := HI.out; omega, by go_num, ?_, ?_, hB7.trans ((hBq.trans (HQ8.out.mono hBqs)).mono hB7s)⟩
                                          · rw [HST4.out, if_pos (by trivial), HCL6.out]; exact HO8A.out.mono (by omega)
                                          · exact .inr ⟨g, rfl, HIG.out.below HQ8.out HIG.out.lt, hlg⟩
                                    · have hst := HSNI.out.trans (istep_far HLI.out (by rw [HDA.out, HCB.out, HTT.out]; exact of_decide_eq_true HFB.out))
                                      have HST3 := Lib.hid hst
                                      clear hst
                                      go_wp2_with fail
                                      go_roundg (gk - 1)
                                      case measure => have := HI.out; omega
                                      case rel =>
                                        refine ⟨i + 1, by have := HI.out; omega, by go_num, ?_, ?_, hB7.trans (hBq.mono hB7s)⟩
                                        · rw [HST3.out, HNB.out]; exact HOQ.out
                                        · exact .inr ⟨g, rfl, HIG.out, hlg⟩
                        · have hkcb : (c.kind != 0) = true := by simpa using hkc
                          have hst := hsn.trans (istep_skip HLI.out (.inl hkc))
                          have HST3 := Lib.hid hst
                          clear hst hsn hkc hlci hlck
                          go_wp2_with fail
                          go_quiet (fail)
                          go_wp2_with fail
                          go_roundg (gk - 1)
                          case measure => have := HI.out; omega
                          case rel =>
                            refine ⟨i + 1, by have := HI.out; omega, by go_num, ?_, ?_, by (repeat (first | exact Below.refl _ _ | assumption | refine Below.trans ?_ (Below.mono (by assumption) (by first | omega | (simp; done) | (simp; omega))) | refine Below.alloc ?_ (by first | omega | (simp; done) | (simp; omega)) _ | refine Below.setCell ?_ (by first | omega | (simp; done) | (simp; omega)) _ | refine Below.drew ?_ | refine below_drewN ?_ _))⟩
                            · rw [HST3.out]; have hO0 := HO7.out; (repeat (first | assumption | refine OwnS.drew ?_ | refine OwnS.drewN ?_ _ | refine OwnS.alloc ?_ _ | refine OwnS.setCell ?_ (by assumption) _))
                            · exact HTO.out.below (by (repeat (first | exact Below.refl _ _ | assumption | refine Below.trans ?_ (Below.mono (by assumption) (by first | omega | (simp; done) | (simp; omega))) | refine Below.alloc ?_ (by first | omega | (simp; done) | (simp; omega)) _ | refine Below.setCell ?_ (by first | omega | (simp; done) | (simp; omega)) _ | refine Below.drew ?_ | refine below_drewN ?_ _)))
                      · have hie : i = k := by omega
                        subst hie
                        have hst := HST.out
                        rw [HNT.out] at hst
                        have HSTF := Lib.hid hst
                        clear hst
                        go_wp2_with fail
                        go_roundg (gp - 1)
                        case measure => have := HK.out; omega
                        case rel =>
                          refine ⟨i + 1, by have := HK.out; omega, by go_num, ?_, ?_, ?_⟩
                          · rw [HSTF.out]; exact HO7.out
                          · rw [HSTF.out]; exact (HTY2.out.below hW6b (by have := HTY2.out.lt; omega)).below hB7 (by have := HTY2.out.lt; omega)
                          · exact ((hS4.step HS5.out (fun g hg => .inl hg)).below hW6b).below hB7
            · have hkb : (d.kind != 0) = true := by simpa using hkd
              have hst : rbest l n v (k + 1) = rbest l n v k := by rw [hrs]; exact kstep_skip HLK.out (.inl hkd)
              have HST := Lib.hid hst
              clear hst hrs hlc hkd hty
              go_wp2_with fail
              go_roundg (gk - 1)
              case measure => have := HK.out; omega
              case rel =>
                refine ⟨k + 1, by have := HK.out; omega, by go_num, ?_, ?_, hS4⟩
                · rw [HST.out]; exact HO.out
                · rw [HST.out]; exact HTYB.out
          · have hke : nl = k := by omega
            subst hke
            as_aux_lemma =>
              obtain ⟨bs, hbs⟩ : ∃ bs, (rbest l n v nl).1 = bs := ⟨_, rfl⟩
              obtain ⟨bt, hbt⟩ : ∃ bt, (rbest l n v nl).2 = bt := ⟨_, rfl⟩
              have hO2 := HO.out
              have hT2 := HTYB.out
              rw [hbs] at hO2
              rw [hbt] at hT2
              obtain ⟨t1, ht1⟩ : ∃ x, (if bs ≠ [] then zeroTy else bt) = x := ⟨_, rfl⟩
              obtain ⟨chs, hchs⟩ : ∃ x, (solveUpto l n v).chains = x := ⟨_, rfl⟩
              obtain ⟨ch1, hch1⟩ : ∃ x, (if bs ≠ [] then chs ++ [bs] else chs) = x := ⟨_, rfl⟩
              have hstep := HSTEP.out
              unfold rsolveStep at hstep
              rw [if_neg (by rw [HSN.out]; simp), HLl.out, hbs, hbt, hchs] at hstep
              have hst : solveUpto l n (v + 1) = ⟨setAll t1 (solveUpto l n v).out (clsUpto (ddL l n v) n), ch1, setAll true (solveUpto l n v).seen (clsUpto (ddL l n v) n)⟩ := by
                rw [← hstep, ← ht1, ← hch1, ← HLl.out]
                by_cases hb0 : bs ≠ []
                · rw [if_pos hb0, if_pos hb0, if_pos hb0]; rfl
                · rw [if_neg hb0, if_neg hb0, if_neg hb0]; rfl
              have HSTV := Lib.hid hst
              clear hst hstep HSTEP HO HTYB hty
              have hTx : TysBlk wr w1.heap.size (solveUpto l n v).out := Blk.below HT3.out hB4 (by omega)
              have hBx : BoolsBlk wr (w1.heap.size + 1 + 1) (solveUpto l n v).seen := Blk.below HB3.out hB4 (by omega)
              have hCx := HC3.out.since (Since.below (Since.refl (fun _ => False) w3) hB4) (by intro g h; cases h)
              rw [hchs] at hCx hlc
              have hIx : Blk wr gc 3 ((ddL l n v).map (Value.int .i64)).toArray := HIc.out.below hB4 hgcl
              have hBr : Below w1.heap.size w1 wr := hBo3.trans (hB4.mono (by omega))
              obtain ⟨A13, c13, hv13, -, -⟩ := hO2.shape
              subst hv13
              obtain ⟨nb, hnb⟩ : ∃ x, bs.length = x := ⟨_, rfl⟩
              rw [hnb] at hO2 ⊢
              obtain ⟨vals, hv1, hv2⟩ := hCx
              obtain ⟨nc, hnc⟩ : ∃ x, chs.length = x := ⟨_, rfl⟩
              rw [hnc] at hv1 hlc
              have HNB := Lib.hid hnb
              have HNC := Lib.hid hnc
              have HV1 := Lib.hid hv1
              have HV2 := Lib.hid hv2
              have HO2 := Lib.hid hO2
              have HT2 := Lib.hid hT2
              have HTX := Lib.hid hTx
              have HBX := Lib.hid hBx
              have HIX := Lib.hid hIx
              have HT1 := Lib.hid ht1
              have HCH1 := Lib.hid hch1
              obtain ⟨out0, hout0⟩ : ∃ x, (solveUpto l n v).out = x := ⟨_, rfl⟩
              obtain ⟨seen0, hseen0⟩ : ∃ x, (solveUpto l n v).seen = x := ⟨_, rfl⟩
              rw [hout0] at HTX HSTV HLO
              rw [hseen0] at HBX HSTV HLS
              have HOUT := Lib.hid hout0
              have HSEEN := Lib.hid hseen0
              clear hbs hbt hnb hnc hv1 hv2 hO2 hTx hBx hIx ht1 hch1 hout0 hseen0 hchs HSN hlt
              obtain ⟨wp, rfl⟩ : ∃ wp : World, wp = wr := ⟨_, rfl⟩
              obtain ⟨gp, rfl⟩ : ∃ gp : Nat, gp = gk := ⟨_, rfl⟩
              go_upto_if 176 with fail
              go_cut [9] (fun s9 wx => ChainsOwn wx (w1.heap.size + 1) s9 ch1 ∧ Blk wx (w3.heap.size + 1) 23 (tyVals t1) ∧ TysBlk wx w1.heap.size out0 ∧ BoolsBlk wx (w1.heap.size + 1 + 1) seen0 ∧ Blk wx gc 3 ((ddL l n v).map (Value.int .i64)).toArray ∧ Below w1.heap.size w1 wx ∧ w3.heap.size + 2 ≤ wx.heap.size)
              case first =>
                by_cases hnb0 : nb = 0
                · subst hnb0
                  have hbe : bs = [] := List.length_eq_zero_iff.1 HNB.out
                  have e1 : t1 = bt := by rw [← HT1.out, if_neg (by simp [hbe])]
                  have e2 : ch1 = chs := by rw [← HCH1.out, if_neg (by simp [hbe])]
                  have E1 := Lib.hid e1
                  have E2 := Lib.hid e2
                  clear e1 e2 hbe
                  go_wp2_with fail
                  go_meet
                  rw [E1.out, E2.out]
                  exact ⟨⟨vals, by rw [HNC.out]; exact HV1.out, HV2.out⟩, HT2.out, HTX.out, HBX.out, HIX.out, hBr, by omega⟩
                · have hbe : bs ≠ [] := fun h => hnb0 (by rw [← HNB.out, h]; rfl)
                  have e1 : t1 = zeroTy := by rw [← HT1.out, if_pos hbe]
                  have e2 : ch1 = chs ++ [bs] := by rw [← HCH1.out, if_pos hbe]
                  have E1 := Lib.hid e1
                  have E2 := Lib.hid e2
                  have hnbp : (0 : Int) < (nb : Int) := by omega
                  clear e1 e2 hbe
                  go_wp2_with (at_builtin; go_must (refine wpList_append_S _ rfl (.tmp 177) (.tmp 179) _ rfl (w1.heap.size + 1) 33 k0 _ 1 24 Try.underlying29 hk0 hk1 hk2z hk3 rfl u9 nc vals rfl (by exact HV1.out.alloc _) ⟨wp.heap.size, 0, none⟩ 1 1 [.slice A13 nb c13] rfl rfl (news_one _ _ _ (by go_simp)) (by simp [Value.oneCell']) (by simp only [maxLen]; omega) (by omega) (by simp; omega) ?_); intro v' w4 hown hgrow hat; have hty4 := (Blk.alloc HT2.out (.cells #[.slice A13 nb c13] 33)).grown hgrow (fun e1 => HV1.out.ne_blk HT2.out (by decide) e1.symm); have ht0 : w4.cell? ⟨w3.heap.size + 1, 0, none⟩ = some (.int .i64 bt.k) := hty4.cell 0; have ht1 : w4.cell? ⟨w3.heap.size + 1, 1, none⟩ = some (.int .i64 bt.n) := hty4.cell 1; have ht2 : w4.cell? ⟨w3.heap.size + 1, 2, none⟩ = some (.string bt.r) := hty4.cell 2; have hf0 := hty4.frozen 0; have hf1 := hty4.frozen 1; have hf2 := hty4.frozen 2; have HTY4 := Lib.hid hty4; have HOWN := Lib.hid hown; have HGROW := Lib.hid hgrow; clear hty4 hown hgrow hat)
                  go_meet
                  rw [E1.out, E2.out]
                  exact ex_push HV1.out HNC.out HV2.out HO2.out HNB.out HOWN.out HGROW.out HTY4.out HTX.out HBX.out HIX.out hBr (by omega) hgcl (by omega)
              case rest =>
                obtain ⟨hC9, hTy9, hT9, hB9, hI9, hBb9, hz9⟩ := hcut
                have HC9 := Lib.hid hC9
                have HTY9 := Lib.hid hTy9
                have HT9 := Lib.hid hT9
                have HB9 := Lib.hid hB9
                have HI9 := Lib.hid hI9
                clear hC9 hTy9 hT9 hB9 hI9
                obtain ⟨wz, rfl⟩ : ∃ wz : World, wz = wc := ⟨_, rfl⟩
                go_wp2_with fail
                have hIz : IntsBlk wz gc (ddL l n v) := HI9.out
                have hdl : (ddL l n v).length = n := (dd_dist HOK.out hlt2).len
                have HIZ := Lib.hid hIz
                have HDL := Lib.hid hdl
                clear hIz hdl
                go_loopg [19] n (fun gk s19 wr => ∃ i : Nat, i + gk = n ∧ s19 = .int .i64 i ∧ TysBlk wr w1.heap.size (setAll t1 out0 (clsUpto (ddL l n v) i)) ∧ BoolsBlk wr (w1.heap.size + 1 + 1) (setAll true seen0 (clsUpto (ddL l n v) i)) ∧ Since (fun g => g = w1.heap.size ∨ g = w1.heap.size + 1 + 1) wz wr)
                case atStart => exact ⟨0, by omega, rfl, HT9.out, HB9.out, Since.refl _ _⟩
                case round =>
                  obtain ⟨i, hi, rfl, hTi, hBi, hSi⟩ := hrel
                  have hi' : i ≤ n := by omega
                  have HI := Lib.hid hi
                  have HTI := Lib.hid hTi
                  have HBI := Lib.hid hBi
                  have hzi := hSi.size
                  clear hi hBi
                  by_cases hlt4 : i < n
                  · have hIr : IntsBlk wr gc (ddL l n v) := Blk.since HIZ.out hSi (by omega)
                    have hci := hIr.cell (i := i) (by rw [HDL.out]; exact hlt4)
                    obtain ⟨di, hdi⟩ : ∃ x, (ddL l n v).getD i 0 = x := ⟨_, rfl⟩
                    rw [hdi] at hci
                    have HDI := Lib.hid hdi
                    have hii : (i : Int) < (n : Int) := by omega
                    clear hIr hdi
                    by_cases hdn : di < 0
                    · have hcl := clsUpto_no (d := ddL l n v) (q := i) (by rw [HDI.out]; exact hdn)
                      have HCLS := Lib.hid hcl
                      clear hcl hTi
                      go_wp2_with fail
                      go_roundg (gk - 1)
                      case measure => have := HI.out; omega
                      case rel =>
                        refine ⟨i + 1, by have := HI.out; omega, by go_num, ?_, ?_, hSi⟩
                        · rw [HCLS.out]; exact HTI.out
                        · rw [HCLS.out]; exact HBI.out
                    · have hcl := clsUpto_yes (d := ddL l n v) (q := i) (by rw [HDI.out]; omega)
                      have HCLS := Lib.hid hcl
                      clear hcl
                      have hty5 := HTY9.out.since hSi (by omega)
                      have ht0 : wr.cell? ⟨w3.heap.size + 1, 0, none⟩ = some (.int .i64 t1.k) := hty5.cell 0
                      have ht1 : wr.cell? ⟨w3.heap.size + 1, 1, none⟩ = some (.int .i64 t1.n) := hty5.cell 1
                      have ht2 : wr.cell? ⟨w3.heap.size + 1, 2, none⟩ = some (.string t1.r) := hty5.cell 2
                      have hil : i < (setAll t1 out0 (clsUpto (ddL l n v) i)).length := by rw [setAll_len, HLO.out]; exact hlt4
                      have hil2 : i < (setAll true seen0 (clsUpto (ddL l n v) i)).length := by rw [setAll_len, HLS.out]; exact hlt4
                      obtain ⟨x, hx0, hx1, hx2⟩ := hTi.cells hil
                      have hbc := HBI.out.cell hil2
                      have hf0 := Blk.frozen hTi (i * 3)
                      have hf1 := Blk.frozen hTi (i * 3 + 1)
                      have hf2 := Blk.frozen hTi (i * 3 + 2)
                      have hf3 := Blk.frozen HBI.out i
                      have HIL := Lib.hid hil
                      have HIL2 := Lib.hid hil2
                      obtain ⟨bo, hbo⟩ : ∃ x, (setAll true seen0 (clsUpto (ddL l n v) i)).getD i false = x := ⟨_, rfl⟩
                      rw [hbo] at hbc
                      clear hTi hty5 hil hil2 hbo
                      go_wp2_with fail
                      go_roundg (gk - 1)
                      case measure => have := HI.out; omega
                      case rel =>
                        refine ⟨i + 1, by have := HI.out; omega, by go_num, ?_, ?_, ?_⟩
                        · rw [HCLS.out, setAll_snoc]
                          exact Blk.far (HTI.out.set HIL.out t1) (by simp; omega) _
                        · rw [HCLS.out, setAll_snoc]
                          exact BoolsBlk.set (Blk.far (Blk.far (Blk.far HBI.out (by simp; omega) _) (by simp; omega) _) (by simp; omega) _) i true
                        · exact (((hSi.setCell (.inl (.inl rfl)) _).setCell (.inl (.inl rfl)) _).setCell (.inl (.inl rfl)) _).setCell (.inl (.inr rfl)) _
                  · have hin : n = i := by omega
                    subst hin
                    clear hTi
                    go_wp2_with fail
                    go_roundg (go - 1)
                    case measure => have := HK2.out; omega
                    case rel =>
                      have hB10 : Below w1.heap.size wz wr := hSi.toBelow (by omega) (by intro g hg; omega)
                      refine ⟨v + 1, by have := HK2.out; omega, by go_num, ?_, ?_, ?_, hBb9.trans hB10, by omega⟩
                      · rw [HSTV.out]; exact HTI.out
                      · rw [HSTV.out]; exact HBI.out
                      · rw [HSTV.out]
                        exact HC9.out.since2 hSi (fun g hg => by
                          rcases hg with rfl | rfl
                          · exact .inl (by omega)
                          · exact .inr ⟨_, _, HB9.out, by decide, by decide⟩)
      · go_wp2_with fail
        go_roundg (gk - 1)
        case measure => have := HK2.out; omega
        case rel =>
          have hst : solveUpto l n (v + 1) = solveUpto l n v := by
            rw [← HSTEP.out]
            unfold rsolveStep
            rw [if_pos HSN.out]
          refine ⟨v + 1, by have := HK2.out; omega, by go_num, ?_, ?_, ?_, hBo, hzw⟩
          · rw [hst]; exact HT.out
          · rw [hst]; exact HB.out
          · rw [hst]; exact HC.out
    · have hkn2 : v = n := by omega
      obtain ⟨A12, c12, hA12, hch⟩ := HC.out.read
      subst hA12
      have HCH := Lib.hid hch
      clear hch
      go_wp2_with fail
      go_ret3
      subst hkn2
      refine ⟨some ⟨w1.heap.size, 0, none⟩, v, A12, c12, ?_, TysBlk.row HT.out, HCH.out, hBow⟩
      rw [HLO.out]
      rfl

end Go.Proofs.Ytpdimehoepfgaaa
