/- Solve, walked at a number of vertices within the bounds. -/
import Derived.Test.YtpdimehoepfgaaaLoop
namespace Go.Proofs.Ytpdimehoepfgaaa
open Go.RowKit

set_option maxHeartbeats 4000000 in
set_option maxRecDepth 100000 in
theorem solve_any (n : Nat) (AL : Option Addr) (nl cL : Nat) (l : List Con) (w : World) (hL : RowAt 8 conCells w w.heap.size AL l) (hl : l.length = nl) (hn : n ≤ 4096) (hnl : nl ≤ 200) :
    Calls Try.prog 12 #[.int .i64 (n : Int), .slice AL nl cL] w (SolvePost w n l) := by
  obtain ⟨i0, hi0, hz0, hz1, hz2⟩ := info_parts int_info
  obtain ⟨j0, hj0, hy0, hy1, hy2⟩ := info_parts edge_info
  have hmk := run_make_one 49 53 _ 24 Try.underlying49 edges_info rfl (by omega) n (by omega)
  have hmm := @run_makeMap Try.prog
  have HTY := Lib.hid (run_make_tys n (by omega))
  have HBO := Lib.hid (run_make_one 37 4 _ 1 Try.underlying37 bool_info rfl (by omega) n (by omega))
  have hd1 : decide ((n : Int) < 0) = false := by simp
  have hd2 : decide ((4096 : Int) < (n : Int)) = false := by simp; omega
  have HL := Lib.hid hL
  have HLl := Lib.hid hl
  clear hL hl
  go_enter Try.func12, Try.ntmps12
  go_wp2_with fail
  clear hd1 hd2 hmk hmm
  generalize hW0 : (((w.alloc (.cells #[.int .i64 (n : Int)] 3)).alloc (.cells (Array.replicate n (.slice none 0 0)) 53)).alloc (.map #[] 0)).alloc (.cells #[.slice AL nl cL, .slice (some ⟨w.heap.size + 1, 0, none⟩) n n, .map (some (w.heap.size + 1 + 1))] 52) = W0
  have hWs : W0.heap.size = w.heap.size + 4 := by rw [← hW0]; simp
  have hWb : Below (w.heap.size + 1) (w.alloc (.cells #[.int .i64 (n : Int)] 3)) W0 := by
    rw [← hW0]
    refine Below.alloc (Below.alloc (Below.alloc (Below.refl _ _) ?_ _) ?_ _) ?_ _ <;> simp
  have hWg : Blk W0 (w.heap.size + 1 + 1 + 1) 52 #[.slice AL nl cL, .slice (some ⟨w.heap.size + 1, 0, none⟩) n n, .map (some (w.heap.size + 1 + 1))] := by
    rw [← hW0]
    have := Blk.new (((w.alloc (.cells #[.int .i64 (n : Int)] 3)).alloc (.cells (Array.replicate n (.slice none 0 0)) 53)).alloc (.map #[] 0)) 52 #[.slice AL nl cL, .slice (some ⟨w.heap.size + 1, 0, none⟩) n n, .map (some (w.heap.size + 1 + 1))]
    simpa using this
  have hWe : EdgesOwn W0 (w.heap.size + 4) (w.heap.size + 1) (edgesM l n 0) := by
    have hb := Blk.new (w.alloc (.cells #[.int .i64 (n : Int)] 3)) 53 (Array.replicate n (.slice none 0 0))
    have hb2 := (hb.alloc (.map #[] 0)).alloc (.cells #[.slice AL nl cL, .slice (some ⟨w.heap.size + 1, 0, none⟩) n n, .map (some (w.heap.size + 1 + 1))] 52)
    rw [hW0, World.size_alloc] at hb2
    refine ⟨List.replicate n (.slice none 0 0), by simpa using hb2, by simp [edgesM], fun v es hv => ?_, fun u v x y _ hx _ g hg => ?_⟩
    · have hvn : v < n := by
        have := (List.getElem?_eq_some_iff.1 hv).1
        rwa [edgesM_len] at this
      rw [edgesM_get l n 0 v hvn] at hv
      cases hv
      exact ⟨.slice none 0 0, by simp [hvn], OwnS.nil _ _ _ _⟩
    · rw [List.getElem?_replicate] at hx
      split at hx
      · cases hx; cases hg
      · cases hx
  have hWm : MarksOwn W0 (w.heap.size + 4) (w.heap.size + 1 + 1) (marksUpto l 0) := by
    have hm := (IMap.made ((w.alloc (.cells #[.int .i64 (n : Int)] 3)).alloc (.cells (Array.replicate n (.slice none 0 0)) 53))).alloc (.cells #[.slice AL nl cL, .slice (some ⟨w.heap.size + 1, 0, none⟩) n n, .map (some (w.heap.size + 1 + 1))] 52)
    rw [hW0, World.size_alloc, World.size_alloc] at hm
    exact ⟨_, hm, fun v => OwnS.nil _ _ _ _, fun u v _ g hg => by cases hg⟩
  have HWs := Lib.hid hWs
  have HWg := Lib.hid hWg
  have HWe := Lib.hid hWe
  have HWm := Lib.hid hWm
  clear hWs hWg hWe hWm hW0
  go_loopg [42] nl (fun gk s42 wr => ∃ k : Nat, k + gk = nl ∧ s42 = .int .i64 k ∧ (∀ i c, i < k → l[i]? = some c → okCon n c = true) ∧ EdgesOwn wr (w.heap.size + 4) (w.heap.size + 1) (edgesM l n k) ∧
    MarksOwn wr (w.heap.size + 4) (w.heap.size + 1 + 1) (marksUpto l k) ∧ Since (fun g => g = w.heap.size + 1 ∨ g = w.heap.size + 1 + 1) W0 wr)
  case atStart => exact ⟨0, by omega, rfl, fun i c hi => by omega, HWe.out, HWm.out, Since.refl _ _⟩
  case round =>
    clear HWe HWm
    obtain ⟨k, hk, rfl, hok, hE, hM, hS⟩ := hrel
    have hk' : k ≤ nl := by omega
    have HK := Lib.hid hk
    have HOK := Lib.hid hok
    have HE := Lib.hid hE
    have HM := Lib.hid hM
    clear hk hok hE hM
    have hS1 : Below (w.heap.size + 1) W0 wr := hS.toBelow (by have := HWs.out; omega) (by omega)
    have hBw : Below w.heap.size w wr := (below_alloc w _).trans ((hWb.mono (by omega)).trans (hS1.mono (by omega)))
    have hbox : wr.cell? ⟨w.heap.size, 0, none⟩ = some (.int .i64 (n : Int)) := (hS1.cell (p := ⟨w.heap.size, 0, none⟩) (by simp)).trans ((hWb.cell (p := ⟨w.heap.size, 0, none⟩) (by simp)).trans (by simp))
    have hsz : w.heap.size + 4 ≤ wr.heap.size := by have := hS.size; have := HWs.out; omega
    have hBg : Blk wr (w.heap.size + 1 + 1 + 1) _ _ := HWg.out.since hS (by omega)
    have hg1 := hBg.cell 1
    have hg2 := hBg.cell 2
    simp only [List.getElem?_toArray, List.getElem?_cons_zero, List.getElem?_cons_succ] at hg1 hg2
    clear hBg hS1
    by_cases hlt : k < nl
    · have hkl : k < l.length := by rw [HLl.out]; exact hlt
      have hlk : l[k]? = some l[k] := List.getElem?_eq_getElem hkl
      obtain ⟨lb, loff, hA, hlb, hlc⟩ := (HL.out.below hBw (Nat.le_refl _)) k _ hlk
      subst hA
      have hc0 : wr.cell? ⟨lb, loff + k * 8, none⟩ = some (.int .i64 l[k].kind) := hlc 0 _ rfl
      have hc1 : wr.cell? ⟨lb, loff + k * 8 + 1, none⟩ = some (.int .i64 l[k].a) := hlc 1 _ rfl
      have hc2 : wr.cell? ⟨lb, loff + k * 8 + 2, none⟩ = some (.int .i64 l[k].b) := hlc 2 _ rfl
      have hc3 : wr.cell? ⟨lb, loff + k * 8 + 3, none⟩ = some (.int .i64 l[k].tk) := hlc 3 _ rfl
      have hc4 : wr.cell? ⟨lb, loff + k * 8 + 4, none⟩ = some (.int .i64 l[k].tl) := hlc 4 _ rfl
      have hc5 : wr.cell? ⟨lb, loff + k * 8 + 5, none⟩ = some (.string l[k].tr) := hlc 5 _ rfl
      have hc6 : wr.cell? ⟨lb, loff + k * 8 + 6, none⟩ = some (.int .i64 l[k].at_) := hlc 6 _ rfl
      have hc7 : wr.cell? ⟨lb, loff + k * 8 + 7, none⟩ = some (.int .i64 l[k].end_) := hlc 7 _ rfl
      have HLK := Lib.hid hlk
      clear hlc hlk
      generalize l[k] = c at *
      have hlbs : lb < wr.heap.size := by omega
      have hs0 : w.heap.size < wr.heap.size := by omega
      have hs1 : w.heap.size + 1 < wr.heap.size := by omega
      have hs2 : w.heap.size + 1 + 1 < wr.heap.size := by omega
      have hs3 : w.heap.size + 1 + 1 + 1 < wr.heap.size := by omega
      go_wp2_with fail
      refine (inside_any c.a n w.heap.size _ (by go_simp)).mono ?_
      rintro e w1 ⟨rfl, rfl⟩
      cases hia : inB n c.a
      · go_wp2_with fail
        go_ret3
        exact solve_bad HLK.out (by simp [okCon, hia]) (by (repeat (first | exact Below.refl _ _ | assumption | refine Below.trans ?_ (Below.mono (by assumption) (by first | omega | (simp; done) | (simp; omega))) | refine Below.alloc ?_ (by first | omega | (simp; done) | (simp; omega)) _ | refine Below.setCell ?_ (by first | omega | (simp; done) | (simp; omega)) _ | refine Below.drew ?_ | refine below_drewN ?_ _)))
      by_cases hk0 : c.kind = 0
      · have hkb : (c.kind == 0) = true := by simpa using hk0
        have hkb1 : (c.kind == 1) = false := by simp [hk0]
        have HK0 := Lib.hid hk0
        clear hk0
        go_wp2_with fail
        refine (isMark_any _ _ _ _).mono ?_
        rintro e w2 ⟨rfl, hb2⟩
        cases him : isMarkB c.tk c.tl c.tr
        · obtain ⟨hx1, hx2⟩ := bcell hb2
          have hx3 := hb2.size
          simp at hx3
          go_wp2_with fail
          go_ret3
          exact solve_bad HLK.out (by simp [okCon, HK0.out, him]) (by (repeat (first | exact Below.refl _ _ | assumption | refine Below.trans ?_ (Below.mono (by assumption) (by first | omega | (simp; done) | (simp; omega))) | refine Below.alloc ?_ (by first | omega | (simp; done) | (simp; omega)) _ | refine Below.setCell ?_ (by first | omega | (simp; done) | (simp; omega)) _ | refine Below.drew ?_ | refine below_drewN ?_ _)))
        · obtain ⟨hx1, hx2⟩ := bcell hb2
          have hx3 := hb2.size
          simp at hx3
          obtain ⟨av, hav, havn⟩ := inB_nat hia
          have HAV := Lib.hid hav
          clear hav
          have hE2 : EdgesOwn w2 (w.heap.size + 4) (w.heap.size + 1) (edgesM l n k) := HE.out.kept fun g _ hg => (hb2.block g (by simp; omega)).trans (Below.heap_alloc _ _ _ hg)
          have hS2 : Since (fun g => g = w.heap.size + 1 ∨ g = w.heap.size + 1 + 1) W0 w2 := (hS.alloc _).below hb2
          obtain ⟨f, hmap0, hown0, hrlt, back⟩ := HM.out.at av
          have hsame : ∀ g, g < wr.heap.size → w2.heap[g]? = wr.heap[g]? := fun g hg => (hb2.block g (by simp; omega)).trans (Below.heap_alloc _ _ _ hg)
          have hmap : IMap w2 (w.heap.size + 1 + 1) f := hmap0.keep (hsame _ hmap0.lt)
          have hown := hown0.of_block (w' := w2) fun g hg => hsame g (hown0.lt g hg).2
          have hlk : ∀ w' : World, IMap w' (w.heap.size + 1 + 1) f → (Instr.lookup 50 (.map (some (w.heap.size + 1 + 1))) (.int .i64 c.a) false).run Try.prog w' = .ok ((f (av : Int)).getD (.slice none 0 0)) w' := fun w' h' => by
            rw [HAV.out]
            exact run_lookup_int (P := Try.prog) (t := 50) (kt := 3) (et := 33) Try.underlying50 Try.underlying3 zero_ints h' av
          have hup : ∀ (w' : World) (v' : Value), IMap w' (w.heap.size + 1 + 1) f → ∃ w4, (Instr.mapUpdate 50 (.map (some (w.heap.size + 1 + 1))) (.int .i64 c.a) v').run Try.prog w' = .ok () w4 ∧ IMap w4 (w.heap.size + 1 + 1) (fun j => if j = (av : Int) then some v' else f j) ∧ w'.grownBy w4 (some (w.heap.size + 1 + 1)) ∧ w4.heap.size = w'.heap.size := fun w' v' h' => by
            rw [HAV.out]
            exact run_mapUpdate_int (P := Try.prog) (t := 50) (kt := 3) (et := 33) Try.underlying50 Try.underlying3 h' av v'
          have hlk2 := hlk w2 hmap
          have hmu : (marksUpto l k av).length ≤ 100000 := by
            have := marksUpto_len l k av
            omega
          have hrb : ((f (av : Int)).getD (.slice none 0 0)).ownBlock ≠ some (w.heap.size + 1 + 1) := fun e1 => by have := (hown.lt _ e1).1; omega
          have hgb : ((f (av : Int)).getD (.slice none 0 0)).ownBlock ≠ some (w.heap.size + 1) := fun e1 => by have := (hown.lt _ e1).1; omega
          have hgs : ∀ g, ((f (av : Int)).getD (.slice none 0 0)).ownBlock = some g → w.heap.size + 4 ≤ g ∧ g < wr.heap.size := fun g hg => hown0.lt g hg
          have hcA : w2.cell? ⟨wr.heap.size, 1, none⟩ = some (.int .i64 c.a) := by
            rw [hx1 _ _ (by simp)]
            simp
          have hgm : w2.cell? ⟨w.heap.size + 1 + 1 + 1, 2, none⟩ = some (.map (some (w.heap.size + 1 + 1))) := by
            rw [hx1 _ _ (by simp; omega), World.cell?_alloc_lt _ _ _ (by simpa using hs3)]
            exact hg2
          have hz1' : wr.heap.size < w2.heap.size := by omega
          have hz2' : w.heap.size + 1 + 1 + 1 < w2.heap.size := by omega
          have HMAP := Lib.hid hmap
          have HOWN := Lib.hid hown
          have HBACK := Lib.hid back
          have HE2 := Lib.hid hE2
          have HLKA := Lib.hid hlk
          have HUP := Lib.hid hup
          have HSM := Lib.hid hsame
          have HGS := Lib.hid hgs
          clear hmap hown hmap0 hown0 hsame back hE2 hlk hup hx1 hx2 hb2 hg1 hg2 hc0 hc1 hc2 hc3 hc4 hc5 hc6 hc7 hbox hgs
          generalize (f (av : Int)).getD (.slice none 0 0) = val at *
          go_wp2_with fail
          refine wp_region_HS (fun w' => w'.cell? ⟨w.heap.size + 1 + 1 + 1, 2, none⟩ = some (.map (some (w.heap.size + 1 + 1))) ∧ w'.cell? ⟨wr.heap.size, 1, none⟩ = some (.int .i64 c.a) ∧ (Instr.lookup 50 (.map (some (w.heap.size + 1 + 1))) (.int .i64 c.a) false).run Try.prog w' = .ok val w') [12] [true, true, true, true, true, true, true, true, true, true, false, false, false] (by kernel_rfl) (by kernel_rfl) rfl (by kernel_rfl) ?_
          have hS0 : w2.drew.cell? ⟨w.heap.size + 1 + 1 + 1, 2, none⟩ = some (.map (some (w.heap.size + 1 + 1))) ∧ w2.drew.cell? ⟨wr.heap.size, 1, none⟩ = some (.int .i64 c.a) ∧ (Instr.lookup 50 (.map (some (w.heap.size + 1 + 1))) (.int .i64 c.a) false).run Try.prog w2.drew = .ok val w2.drew := ⟨hgm, hcA, HLKA.out _ HMAP.out⟩
          refine wpHS_soft rfl hS0 (by intro w' hSw; obtain ⟨hs1, hs2, hs3⟩ := hSw; go_simp; rfl) ?_
          simp only [Act.put, List.setIfInBounds_toArray, List.set_cons_zero, List.set_cons_succ]
          refine wpHS_soft rfl hS0 (by intro w' hSw; obtain ⟨hs1, hs2, hs3⟩ := hSw; go_simp; rfl) ?_
          simp only [Act.put, List.setIfInBounds_toArray, List.set_cons_zero, List.set_cons_succ]
          refine wpHS_soft rfl hS0 (by intro w' hSw; obtain ⟨hs1, hs2, hs3⟩ := hSw; go_simp; rfl) ?_
          simp only [Act.put, List.setIfInBounds_toArray, List.set_cons_zero, List.set_cons_succ]
          refine wpHS_soft rfl hS0 (by intro w' hSw; obtain ⟨hs1, hs2, hs3⟩ := hSw; go_simp; rfl) ?_
          simp only [Act.put, List.setIfInBounds_toArray, List.set_cons_zero, List.set_cons_succ]
          refine wpHS_soft rfl hS0 (by intro w' hSw; obtain ⟨hs1, hs2, hs3⟩ := hSw; go_simp; rfl) ?_
          simp only [Act.put, List.setIfInBounds_toArray, List.set_cons_zero, List.set_cons_succ]
          refine wpHS_soft rfl hS0 (by intro w' hSw; obtain ⟨hs1, hs2, hs3⟩ := hSw; go_simp; rfl) ?_
          simp only [Act.put, List.setIfInBounds_toArray, List.set_cons_zero, List.set_cons_succ]
          refine wpHS_soft rfl hS0 (by intro w' hSw; obtain ⟨hs1, hs2, hs3⟩ := hSw; go_simp; rfl) ?_
          simp only [Act.put, List.setIfInBounds_toArray, List.set_cons_zero, List.set_cons_succ]
          refine wpHS_soft rfl hS0 (by intro w' hSw; obtain ⟨hs1, hs2, hs3⟩ := hSw; go_simp; rfl) ?_
          simp only [Act.put, List.setIfInBounds_toArray, List.set_cons_zero, List.set_cons_succ]
          refine wpHS_soft rfl hS0 (by intro w' hSw; obtain ⟨hs1, hs2, hs3⟩ := hSw; go_simp; rfl) ?_
          simp only [Act.put, List.setIfInBounds_toArray, List.set_cons_zero, List.set_cons_succ]
          refine wpHS_soft rfl hS0 (by intro w' hSw; obtain ⟨hs1, hs2, hs3⟩ := hSw; go_simp; rfl) ?_
          simp only [Act.put, List.setIfInBounds_toArray, List.set_cons_zero, List.set_cons_succ]
          refine wpHS_run (w' := w2.drew.alloc (.cells #[.int .i64 (k : Int)] 3)) rfl (by go_simp; rfl) ?_ ?_
          · exact fun _ => ⟨by go_simp, by go_simp, HLKA.out _ (by have hmap0 := HMAP.out; (repeat (first | assumption | refine IMap.drew ?_ | refine IMap.drewN ?_ _ | refine IMap.alloc ?_ _ | refine IMap.setCell ?_ (by first | assumption | omega | (simp; omega)) _)))⟩
          simp only [Act.put, List.setIfInBounds_toArray, List.set_cons_zero, List.set_cons_succ]
          refine wpHS_law rfl (wp_append_S _ (.tmp 70) (.tmp 72) _ rfl (w.heap.size + 4) 3 i0 _ 1 8 Try.underlying33 hi0 hz0 hz1 hz2 rfl val (marksUpto l k av).length (ivs ((marksUpto l k av).map fun x : Nat => (x : Int))) rfl (by have hO0 := HOWN.out; (repeat (first | assumption | refine OwnS.drew ?_ | refine OwnS.drewN ?_ _ | refine OwnS.alloc ?_ _ | refine OwnS.setCell ?_ (by assumption) _))) ⟨w2.heap.size, 0, none⟩ 1 1 [.int .i64 (k : Int)] rfl rfl (news_one _ _ _ (by go_simp)) (by simp [Value.oneCell']) (by simp only [maxLen]; omega) (by omega) (by simp; omega) ?_)
          intro v' w3 hown3 hgrow hat
          have hmap3 : IMap w3 (w.heap.size + 1 + 1) f := IMap.grown (by have hmap0 := HMAP.out; (repeat (first | assumption | refine IMap.drew ?_ | refine IMap.drewN ?_ _ | refine IMap.alloc ?_ _ | refine IMap.setCell ?_ (by first | assumption | omega | (simp; omega)) _))) hgrow (fun e1 => hrb e1.symm)
          obtain ⟨w4, hupd, hmap4, hg4, hs4⟩ := HUP.out w3 v' hmap3
          refine ⟨fun _ => ⟨?_, ?_, HLKA.out _ hmap3⟩, ?_⟩
          · rw [hgrow.cell_far _ (by simp; omega) (fun e1 => by have h5 := (HGS.out (w.heap.size + 1 + 1 + 1) e1.symm).1; omega)]
            go_simp
          · rw [hgrow.cell_far _ (by simp; omega) (fun e1 => by have h5 := (HGS.out wr.heap.size e1.symm).2; omega)]
            go_simp
          simp only [Act.put, List.setIfInBounds_toArray, List.set_cons_zero, List.set_cons_succ]
          refine wpHS_skip (w' := w4) rfl (by go_simp) (by simp) ?_
          refine wpHS_nil ?_
          clear hupd
          go_wp2_with fail
          go_roundg (gk - 1)
          case measure => have := HK.out; omega
          case rel =>
            refine ⟨k + 1, by have := HK.out; omega, by go_num, fun i c' hi hc' => ?_, ?_, ?_, ?_⟩
            · by_cases hik : i = k
              · subst hik
                rw [HLK.out] at hc'
                cases hc'
                simp [okCon, hia, HK0.out, him]
              · exact HOK.out i c' (by omega) hc'
            · rw [edgesM_mark l n k c HLK.out (by rw [HK0.out]; omega)]
              have hE3 : EdgesOwn w3 (w.heap.size + 4) (w.heap.size + 1) (edgesM l n k) := HE2.out.grown HOWN.out (by decide) (fun q hq hne => (hgrow.block q (by simp; omega) hne).trans (Below.heap_alloc w2 _ q hq)) hgb
              exact hE3.kept fun g hg hlt => hg4.block g hlt (fun e1 => by
                have e2 : g = w.heap.size + 1 + 1 := by injection e1
                omega)
            · rw [marksUpto_mark l k av c HLK.out HK0.out HAV.out]
              refine HBACK.out w4 v' k (fun q hq h1 h2 => ?_) ?_ ?_ ?_ hmap4 (by omega)
              · rw [hg4.block q (by have := hgrow.size; simp at this; omega) h2, hgrow.block q (by simp; omega) h1]
                exact (Below.heap_alloc w2 _ q (by omega)).trans (HSM.out q hq)
              · have := hgrow.size
                simp at this
                omega
              · exact hown3.of_block fun g hg => hg4.block g (hown3.lt g hg).2 (fun e1 => by
                  have e2 : g = w.heap.size + 1 + 1 := by injection e1
                  have := (hown3.lt g hg).1
                  omega)
              · rcases hat with h1 | h1
                · exact .inl h1
                · exact .inr ⟨_, h1, by simp; omega⟩
            · refine Since.grown (Since.grown (by (repeat (first | assumption | refine Since.drew ?_ | refine Since.drewN ?_ _ | refine Since.alloc ?_ _ | refine Since.setCell ?_ (by first | assumption | (simp; done) | (simp; omega) | omega) _))) hgrow (fun q hq => .inr ?_)) hg4 (fun q hq => .inl ?_)
              · have := (HGS.out q hq).1
                have := HWs.out
                omega
              · injection hq with hq
                exact .inr hq.symm
      · have hkb : (c.kind == 0) = false := by simpa using hk0
        have HK0 := Lib.hid hk0
        clear hk0
        by_cases hk1 : c.kind = 1
        · have hkb1 : (c.kind == 1) = true := by simpa using hk1
          have HK1 := Lib.hid hk1
          clear hk1
          go_wp2_with fail
          refine (inside_any c.b n w.heap.size _ (by go_simp)).mono ?_
          rintro e w2 ⟨rfl, rfl⟩
          cases hib : inB n c.b
          · go_wp2_with fail
            go_ret3
            exact solve_bad HLK.out (by simp [okCon, HK1.out, hib]) (by (repeat (first | exact Below.refl _ _ | assumption | refine Below.trans ?_ (Below.mono (by assumption) (by first | omega | (simp; done) | (simp; omega))) | refine Below.alloc ?_ (by first | omega | (simp; done) | (simp; omega)) _ | refine Below.setCell ?_ (by first | omega | (simp; done) | (simp; omega)) _ | refine Below.drew ?_ | refine below_drewN ?_ _)))
          · have hca : 0 ≤ c.a ∧ c.a < (n : Int) := by simp [inB] at hia; omega
            have hcb : 0 ≤ c.b ∧ c.b < (n : Int) := by simp [inB] at hib; omega
            obtain ⟨hca0, hca1⟩ := hca
            obtain ⟨hcb0, hcb1⟩ := hcb
            have HIA := Lib.hid hia
            have HIB := Lib.hid hib
            have hEl : (edgesUpto l k c.a.toNat).length ≤ 200000 := by have := edgesUpto_len l c.a.toNat k; omega
            obtain ⟨x, hxc, hxf, hgel, hxo, backE⟩ := HE.out.at (edgesM_get l n k c.a.toNat (by omega))
            have hxlt : ∀ g, x.ownBlock = some g → w.heap.size + 4 ≤ g ∧ g < wr.heap.size := fun g hg => hxo.lt g hg
            have HXO := Lib.hid hxo
            have HBE := Lib.hid backE
            have HXL := Lib.hid hxlt
            clear hxo backE hxlt hc0 hc1 hc2 hc3 hc4 hc5 hc6 hc7 hbox hia hib
            go_wp2_with fail
            refine wp_region_HS (fun w' => w'.cell? ⟨w.heap.size + 1 + 1 + 1, 1, none⟩ = some (.slice (some ⟨w.heap.size + 1, 0, none⟩) n n) ∧ w'.cell? ⟨wr.heap.size, 1, none⟩ = some (.int .i64 c.a) ∧ w'.cell? ⟨wr.heap.size, 2, none⟩ = some (.int .i64 c.b) ∧ w'.cell? ⟨w.heap.size + 1, c.a.toNat, none⟩ = some x) [17] [true, true, true, true, true, true, true, true, true, true, true, true, true, true, false, false, true, false] (by kernel_rfl) (by kernel_rfl) rfl (by kernel_rfl) ?_
            generalize hW1 : wr.alloc (.cells #[.int .i64 c.kind, .int .i64 c.a, .int .i64 c.b, .int .i64 c.tk, .int .i64 c.tl, .string c.tr, .int .i64 c.at_, .int .i64 c.end_] 36) = W1
            have hW1s : W1.heap.size = wr.heap.size + 1 := by rw [← hW1]; simp
            have hW1c : ∀ g o, g < wr.heap.size → W1.cell? ⟨g, o, none⟩ = wr.cell? ⟨g, o, none⟩ := fun g o hg => by rw [← hW1]; exact World.cell?_alloc_lt _ _ _ hg
            have hW1f : ∀ g o, g < wr.heap.size → W1.frozen? ⟨g, o, none⟩ = wr.frozen? ⟨g, o, none⟩ := fun g o hg => by rw [← hW1]; exact World.frozen?_of_block (Below.heap_alloc _ _ _ hg)
            have hW1b : ∀ g, g < wr.heap.size → W1.heap[g]? = wr.heap[g]? := fun g hg => by rw [← hW1]; exact Below.heap_alloc _ _ _ hg
            have hcB : Blk W1 wr.heap.size 36 #[.int .i64 c.kind, .int .i64 c.a, .int .i64 c.b, .int .i64 c.tk, .int .i64 c.tl, .string c.tr, .int .i64 c.at_, .int .i64 c.end_] := by rw [← hW1]; exact Blk.new _ _ _
            have HCB := Lib.hid hcB
            clear hcB
            have hca' : W1.cell? ⟨wr.heap.size, 1, none⟩ = some (.int .i64 c.a) := by rw [← hW1]; simp
            have hcb' : W1.cell? ⟨wr.heap.size, 2, none⟩ = some (.int .i64 c.b) := by rw [← hW1]; simp
            have hgm' : W1.cell? ⟨w.heap.size + 1 + 1 + 1, 1, none⟩ = some (.slice (some ⟨w.heap.size + 1, 0, none⟩) n n) := (hW1c _ _ hs3).trans hg1
            have hgx' : W1.cell? ⟨w.heap.size + 1, c.a.toNat, none⟩ = some x := (hW1c _ _ hs1).trans hxc
            have hS1 : Since (fun g => g = w.heap.size + 1 ∨ g = w.heap.size + 1 + 1) W0 W1 := by rw [← hW1]; exact hS.alloc _
            have hz2 : wr.heap.size < W1.heap.size := by omega
            have hz3 : w.heap.size + 1 + 1 + 1 < W1.heap.size := by omega
            have hz4 : w.heap.size + 1 < W1.heap.size := by omega
            have hO1 := HXO.out.of_block (w' := W1) fun g hg => hW1b g (HXO.out.lt g hg).2
            have HXO1 := Lib.hid hO1
            clear hO1
            have HW1s := Lib.hid hW1s
            have HW1b := Lib.hid hW1b
            have HW1f := Lib.hid hW1f
            clear hW1 hW1s hW1c hW1b hW1f hg1 hg2 hxc
            have hS0 : W1.drew.cell? ⟨w.heap.size + 1 + 1 + 1, 1, none⟩ = some (.slice (some ⟨w.heap.size + 1, 0, none⟩) n n) ∧ W1.drew.cell? ⟨wr.heap.size, 1, none⟩ = some (.int .i64 c.a) ∧ W1.drew.cell? ⟨wr.heap.size, 2, none⟩ = some (.int .i64 c.b) ∧ W1.drew.cell? ⟨w.heap.size + 1, c.a.toNat, none⟩ = some x := ⟨hgm', hca', hcb', hgx'⟩
            refine wpHS_soft rfl hS0 (by intro w' hSw; obtain ⟨hs1', hs2', hs3', hs4'⟩ := hSw; go_simp; rfl) ?_
            simp only [Act.put, List.setIfInBounds_toArray, List.set_cons_zero, List.set_cons_succ]
            refine wpHS_soft rfl hS0 (by intro w' hSw; obtain ⟨hs1', hs2', hs3', hs4'⟩ := hSw; go_simp; rfl) ?_
            simp only [Act.put, List.setIfInBounds_toArray, List.set_cons_zero, List.set_cons_succ]
            refine wpHS_soft rfl hS0 (by intro w' hSw; obtain ⟨hs1', hs2', hs3', hs4'⟩ := hSw; go_simp; rfl) ?_
            simp only [Act.put, List.setIfInBounds_toArray, List.set_cons_zero, List.set_cons_succ]
            refine wpHS_soft rfl hS0 (by intro w' hSw; obtain ⟨hs1', hs2', hs3', hs4'⟩ := hSw; go_simp; rfl) ?_
            simp only [Act.put, List.setIfInBounds_toArray, List.set_cons_zero, List.set_cons_succ]
            refine wpHS_soft rfl hS0 (by intro w' hSw; obtain ⟨hs1', hs2', hs3', hs4'⟩ := hSw; go_simp; rfl) ?_
            simp only [Act.put, List.setIfInBounds_toArray, List.set_cons_zero, List.set_cons_succ]
            refine wpHS_soft rfl hS0 (by intro w' hSw; obtain ⟨hs1', hs2', hs3', hs4'⟩ := hSw; go_simp; rfl) ?_
            simp only [Act.put, List.setIfInBounds_toArray, List.set_cons_zero, List.set_cons_succ]
            refine wpHS_soft rfl hS0 (by intro w' hSw; obtain ⟨hs1', hs2', hs3', hs4'⟩ := hSw; go_simp; rfl) ?_
            simp only [Act.put, List.setIfInBounds_toArray, List.set_cons_zero, List.set_cons_succ]
            refine wpHS_soft rfl hS0 (by intro w' hSw; obtain ⟨hs1', hs2', hs3', hs4'⟩ := hSw; go_simp; rfl) ?_
            simp only [Act.put, List.setIfInBounds_toArray, List.set_cons_zero, List.set_cons_succ]
            refine wpHS_soft rfl hS0 (by intro w' hSw; obtain ⟨hs1', hs2', hs3', hs4'⟩ := hSw; go_simp; rfl) ?_
            simp only [Act.put, List.setIfInBounds_toArray, List.set_cons_zero, List.set_cons_succ]
            refine wpHS_soft rfl hS0 (by intro w' hSw; obtain ⟨hs1', hs2', hs3', hs4'⟩ := hSw; go_simp; rfl) ?_
            simp only [Act.put, List.setIfInBounds_toArray, List.set_cons_zero, List.set_cons_succ]
            refine wpHS_soft rfl hS0 (by intro w' hSw; obtain ⟨hs1', hs2', hs3', hs4'⟩ := hSw; go_simp; rfl) ?_
            simp only [Act.put, List.setIfInBounds_toArray, List.set_cons_zero, List.set_cons_succ]
            refine wpHS_soft rfl hS0 (by intro w' hSw; obtain ⟨hs1', hs2', hs3', hs4'⟩ := hSw; go_simp; rfl) ?_
            simp only [Act.put, List.setIfInBounds_toArray, List.set_cons_zero, List.set_cons_succ]
            refine wpHS_soft rfl hS0 (by intro w' hSw; obtain ⟨hs1', hs2', hs3', hs4'⟩ := hSw; go_simp; rfl) ?_
            simp only [Act.put, List.setIfInBounds_toArray, List.set_cons_zero, List.set_cons_succ]
            refine wpHS_soft rfl hS0 (by intro w' hSw; obtain ⟨hs1', hs2', hs3', hs4'⟩ := hSw; go_simp; rfl) ?_
            simp only [Act.put, List.setIfInBounds_toArray, List.set_cons_zero, List.set_cons_succ]
            refine wpHS_run (w' := W1.drew.alloc (.cells #[.int .i64 (k : Int), .int .i64 c.b] 55)) rfl (by go_simp; rfl) ?_ ?_
            · exact fun _ => ⟨by go_simp, by go_simp, by go_simp, by go_simp⟩
            simp only [Act.put, List.setIfInBounds_toArray, List.set_cons_zero, List.set_cons_succ]
            refine wpHS_law rfl (wp_append_S _ (.tmp 93) (.tmp 98) _ rfl (w.heap.size + 4) 55 j0 _ 2 16 Try.underlying53 hj0 hy0 hy1 hy2 rfl x (edgesUpto l k c.a.toNat).length ((edgesUpto l k c.a.toNat).flatMap edgeCells) rfl (by have hO0 := HXO1.out; (repeat (first | assumption | refine OwnS.drew ?_ | refine OwnS.drewN ?_ _ | refine OwnS.alloc ?_ _ | refine OwnS.setCell ?_ (by assumption) _))) ⟨W1.heap.size, 0, none⟩ 1 1 [.int .i64 (k : Int), .int .i64 c.b] rfl rfl (news_two _ _ _ _ (by go_simp) (by go_simp)) (by simp [Value.oneCell']) (by simp only [maxLen]; omega) (by omega) (by simp; omega) ?_)
            intro v' w3 hown3 hgrow hat
            have hfar : ∀ g o, g < W1.heap.size → x.ownBlock ≠ some g → w3.cell? ⟨g, o, none⟩ = W1.cell? ⟨g, o, none⟩ := fun g o hg hne => by
              rw [hgrow.cell_far _ (by simp; omega) (fun e1 => hne e1.symm)]
              exact World.cell?_alloc_lt W1 _ ⟨g, o, none⟩ hg
            refine ⟨fun _ => ⟨(hfar _ _ hz3 (fun e1 => by have := (HXL.out _ e1).1; omega)).trans hgm', (hfar _ _ hz2 (fun e1 => by have := (HXL.out _ e1).2; omega)).trans hca', (hfar _ _ hz2 (fun e1 => by have := (HXL.out _ e1).2; omega)).trans hcb', (hfar _ _ hz4 (fun e1 => by have := (HXL.out _ e1).1; omega)).trans hgx'⟩, ?_⟩
            simp only [Act.put, List.setIfInBounds_toArray, List.set_cons_zero, List.set_cons_succ]
            have hS3 : w3.cell? ⟨w.heap.size + 1 + 1 + 1, 1, none⟩ = some (.slice (some ⟨w.heap.size + 1, 0, none⟩) n n) ∧ w3.cell? ⟨wr.heap.size, 1, none⟩ = some (.int .i64 c.a) ∧ w3.cell? ⟨wr.heap.size, 2, none⟩ = some (.int .i64 c.b) ∧ w3.cell? ⟨w.heap.size + 1, c.a.toNat, none⟩ = some x := ⟨(hfar _ _ hz3 (fun e1 => by have := (HXL.out _ e1).1; omega)).trans hgm', (hfar _ _ hz2 (fun e1 => by have := (HXL.out _ e1).2; omega)).trans hca', (hfar _ _ hz2 (fun e1 => by have := (HXL.out _ e1).2; omega)).trans hcb', (hfar _ _ hz4 (fun e1 => by have := (HXL.out _ e1).1; omega)).trans hgx'⟩
            refine wpHS_soft rfl hS3 (by intro w' hSw; obtain ⟨hs1', hs2', hs3', hs4'⟩ := hSw; go_simp; rfl) ?_
            simp only [Act.put, List.setIfInBounds_toArray, List.set_cons_zero, List.set_cons_succ]
            have hfz3 : w3.frozen? ⟨w.heap.size + 1, c.a.toNat, none⟩ = false := by
              rw [hgrow.frozen_far _ (by simp; omega) (fun e1 => by have := (HXL.out (w.heap.size + 1) e1.symm).1; omega)]
              exact ((World.frozen?_of_block (Below.heap_alloc W1 _ _ hz4)).trans (HW1f.out _ _ hs1)).trans hxf
            obtain ⟨vg, voff, vcap, hvf, _, _, _, _, _⟩ := hown3.form (by omega)
            subst hvf
            obtain ⟨hs1', hs2', hs3', hs4'⟩ := hS3
            refine wpHS_skip (w' := w3.setCell ⟨w.heap.size + 1, c.a.toNat, none⟩ (.slice (some ⟨vg, voff, none⟩) ((edgesUpto l k c.a.toNat).length + 1) vcap)) rfl (by go_simp) (by simp) ?_
            refine wpHS_nil ?_
            have hbe : EdgesOwn (w3.setCell ⟨w.heap.size + 1, c.a.toNat, none⟩ (.slice (some ⟨vg, voff, none⟩) ((edgesUpto l k c.a.toNat).length + 1) vcap)) (w.heap.size + 4) (w.heap.size + 1) ((edgesM l n k).set c.a.toNat (edgesUpto l k c.a.toNat ++ [⟨k, c.b.toNat⟩])) := by
              refine HBE.out w3 _ ⟨k, c.b.toNat⟩ (fun q hq hne => ?_) ?_ ?_ ?_ (by omega)
              · rw [hgrow.block q (by simp; omega) hne]
                exact (Below.heap_alloc W1 _ q (by omega)).trans (HW1b.out q hq)
              · have := hgrow.size
                simp at this
                omega
              · have e1 : edgeCells ⟨k, c.b.toNat⟩ = [.int .i64 (k : Int), .int .i64 c.b] := by simp [edgeCells]; omega
                rw [e1]
                exact hown3
              · rcases hat with h1 | h1
                · exact .inl h1
                · exact .inr ⟨_, h1, by simp; omega⟩
            have hm4 : MarksOwn (w3.setCell ⟨w.heap.size + 1, c.a.toNat, none⟩ (.slice (some ⟨vg, voff, none⟩) ((edgesUpto l k c.a.toNat).length + 1) vcap)) (w.heap.size + 4) (w.heap.size + 1 + 1) (marksUpto l k) := by
              have h1 : MarksOwn W1 (w.heap.size + 4) (w.heap.size + 1 + 1) (marksUpto l k) := HM.out.kept fun g _ hg => HW1b.out g hg
              have h2 : MarksOwn w3 (w.heap.size + 4) (w.heap.size + 1 + 1) (marksUpto l k) := h1.grown HXO1.out (by decide) (fun q hq hne => (hgrow.block q (by simp; omega) hne).trans (Below.heap_alloc W1 _ q hq)) (fun e1 => by have := (HXL.out _ e1).1; omega)
              exact h2.kept fun g hg _ => Below.heap_setCell _ _ _ _ (by simp; omega)
            have hs4 : Since (fun g => g = w.heap.size + 1 ∨ g = w.heap.size + 1 + 1) W0 (w3.setCell ⟨w.heap.size + 1, c.a.toNat, none⟩ (.slice (some ⟨vg, voff, none⟩) ((edgesUpto l k c.a.toNat).length + 1) vcap)) := by
              refine Since.setCell (Since.grown (by (repeat (first | assumption | refine Since.drew ?_ | refine Since.drewN ?_ _ | refine Since.alloc ?_ _ | refine Since.setCell ?_ (by first | assumption | (simp; done) | (simp; omega) | omega) _))) hgrow (fun q hq => .inr ?_)) (by simp) _
              have := (HXL.out q hq).1
              have := HWs.out
              omega
            have hq1 : (w3.setCell ⟨w.heap.size + 1, c.a.toNat, none⟩ (.slice (some ⟨vg, voff, none⟩) ((edgesUpto l k c.a.toNat).length + 1) vcap)).cell? ⟨w.heap.size + 1 + 1 + 1, 1, none⟩ = some (.slice (some ⟨w.heap.size + 1, 0, none⟩) n n) := by
              rw [World.cell?_setCell_other _ _ _ _ (by simp)]; exact hs1'
            have hq2 : (w3.setCell ⟨w.heap.size + 1, c.a.toNat, none⟩ (.slice (some ⟨vg, voff, none⟩) ((edgesUpto l k c.a.toNat).length + 1) vcap)).cell? ⟨wr.heap.size, 1, none⟩ = some (.int .i64 c.a) := by
              rw [World.cell?_setCell_other _ _ _ _ (fun e1 => by injection e1 with e1; omega)]; exact hs2'
            have hq3 : (w3.setCell ⟨w.heap.size + 1, c.a.toNat, none⟩ (.slice (some ⟨vg, voff, none⟩) ((edgesUpto l k c.a.toNat).length + 1) vcap)).cell? ⟨wr.heap.size, 2, none⟩ = some (.int .i64 c.b) := by
              rw [World.cell?_setCell_other _ _ _ _ (fun e1 => by injection e1 with e1; omega)]; exact hs3'
            have hcb4 : Blk (w3.setCell ⟨w.heap.size + 1, c.a.toNat, none⟩ (.slice (some ⟨vg, voff, none⟩) ((edgesUpto l k c.a.toNat).length + 1) vcap)) wr.heap.size 36 #[.int .i64 c.kind, .int .i64 c.a, .int .i64 c.b, .int .i64 c.tk, .int .i64 c.tl, .string c.tr, .int .i64 c.at_, .int .i64 c.end_] := by
              refine Blk.far (Blk.grown (by have hb0 := HCB.out; (repeat (first | assumption | refine Blk.drew ?_ | refine Blk.drewN ?_ _ | refine Blk.alloc ?_ _ | refine Blk.far ?_ (by first | assumption | omega | (simp; omega)) _))) hgrow (fun e1 => ?_)) (by simp; omega) _
              have := (HXL.out _ e1.symm).2
              omega
            have hq4 : wr.heap.size + 1 ≤ (w3.setCell ⟨w.heap.size + 1, c.a.toNat, none⟩ (.slice (some ⟨vg, voff, none⟩) ((edgesUpto l k c.a.toNat).length + 1) vcap)).heap.size := by
              have h1 := hgrow.size
              have h2 := HW1s.out
              simp at h1 ⊢
              omega
            go_wp2_with fail
            generalize hw4 : w3.setCell ⟨w.heap.size + 1, c.a.toNat, none⟩ (.slice (some ⟨vg, voff, none⟩) ((edgesUpto l k c.a.toNat).length + 1) vcap) = w4 at hbe hm4 hs4 hq1 hq2 hq3 hq4 hcb4 ⊢
            have hbl : c.b.toNat < ((edgesM l n k).set c.a.toNat (edgesUpto l k c.a.toNat ++ [⟨k, c.b.toNat⟩])).length := by rw [List.length_set, edgesM_len]; omega
            obtain ⟨es2, hes2⟩ : ∃ es2, ((edgesM l n k).set c.a.toNat (edgesUpto l k c.a.toNat ++ [⟨k, c.b.toNat⟩]))[c.b.toNat]? = some es2 := ⟨_, List.getElem?_eq_getElem hbl⟩
            have hel2 : es2.length ≤ 200001 := by have := edgesM_set_len l n k _ _ _ _ _ (edgesUpto_len l c.a.toNat k) (by omega) hes2; omega
            have hfinE := edgesM_equal l n k c.a.toNat c.b.toNat c HLK.out HK1.out (by omega) (by omega) (by omega) (by omega) _ es2 (edgesM_get l n k c.a.toNat (by omega)) hes2
            obtain ⟨y, hyc, hyf, hgel2, hyo, backE2⟩ := hbe.at hes2
            have hylt : ∀ g, y.ownBlock = some g → w.heap.size + 4 ≤ g ∧ g < w4.heap.size := fun g hg => hyo.lt g hg
            have hyne : y.ownBlock ≠ some wr.heap.size := fun e1 => by
              rcases hyo.2 with ⟨rfl, _⟩ | ⟨g1, off1, cap1, cur1, rfl, _, hg1', _⟩
              · cases e1
              · have e2 : g1 = wr.heap.size := by simpa [Value.ownBlock] using e1
                subst e2
                unfold Blk at hcb4
                rw [hcb4] at hg1'
                simp at hg1'
            have HYO := Lib.hid hyo
            have HBE2 := Lib.hid backE2
            have HYL := Lib.hid hylt
            have HFE := Lib.hid hfinE
            have HM4 := Lib.hid hm4
            clear hyo backE2 hylt hfinE hm4 hbe hes2 hbl hw4 hcb4 HCB hs1' hs2' hs3' hs4' hfar hown3 hgrow hat hfz3 hgm' hca' hcb' hgx' hS1 hS0 hz2 hz3 hz4 HXO1 HW1s HW1b HW1f
            have hz2 : wr.heap.size < w4.heap.size := by omega
            have hz3 : w.heap.size + 1 + 1 + 1 < w4.heap.size := by omega
            have hz4 : w.heap.size + 1 < w4.heap.size := by omega
            refine wp_region_HS (fun w' => w'.cell? ⟨w.heap.size + 1 + 1 + 1, 1, none⟩ = some (.slice (some ⟨w.heap.size + 1, 0, none⟩) n n) ∧ w'.cell? ⟨wr.heap.size, 1, none⟩ = some (.int .i64 c.a) ∧ w'.cell? ⟨wr.heap.size, 2, none⟩ = some (.int .i64 c.b) ∧ w'.cell? ⟨w.heap.size + 1, c.b.toNat, none⟩ = some y) [17] [true, true, true, true, true, true, true, true, true, true, true, true, true, true, false, false, true, false] (by kernel_rfl) (by kernel_rfl) rfl (by kernel_rfl) ?_
            have hS0 : w4.drew.cell? ⟨w.heap.size + 1 + 1 + 1, 1, none⟩ = some (.slice (some ⟨w.heap.size + 1, 0, none⟩) n n) ∧ w4.drew.cell? ⟨wr.heap.size, 1, none⟩ = some (.int .i64 c.a) ∧ w4.drew.cell? ⟨wr.heap.size, 2, none⟩ = some (.int .i64 c.b) ∧ w4.drew.cell? ⟨w.heap.size + 1, c.b.toNat, none⟩ = some y := ⟨hq1, hq2, hq3, hyc⟩
            refine wpHS_soft rfl hS0 (by intro w' hSw; obtain ⟨hs1', hs2', hs3', hs4'⟩ := hSw; go_simp; rfl) ?_
            simp only [Act.put, List.setIfInBounds_toArray, List.set_cons_zero, List.set_cons_succ]
            refine wpHS_soft rfl hS0 (by intro w' hSw; obtain ⟨hs1', hs2', hs3', hs4'⟩ := hSw; go_simp; rfl) ?_
            simp only [Act.put, List.setIfInBounds_toArray, List.set_cons_zero, List.set_cons_succ]
            refine wpHS_soft rfl hS0 (by intro w' hSw; obtain ⟨hs1', hs2', hs3', hs4'⟩ := hSw; go_simp; rfl) ?_
            simp only [Act.put, List.setIfInBounds_toArray, List.set_cons_zero, List.set_cons_succ]
            refine wpHS_soft rfl hS0 (by intro w' hSw; obtain ⟨hs1', hs2', hs3', hs4'⟩ := hSw; go_simp; rfl) ?_
            simp only [Act.put, List.setIfInBounds_toArray, List.set_cons_zero, List.set_cons_succ]
            refine wpHS_soft rfl hS0 (by intro w' hSw; obtain ⟨hs1', hs2', hs3', hs4'⟩ := hSw; go_simp; rfl) ?_
            simp only [Act.put, List.setIfInBounds_toArray, List.set_cons_zero, List.set_cons_succ]
            refine wpHS_soft rfl hS0 (by intro w' hSw; obtain ⟨hs1', hs2', hs3', hs4'⟩ := hSw; go_simp; rfl) ?_
            simp only [Act.put, List.setIfInBounds_toArray, List.set_cons_zero, List.set_cons_succ]
            refine wpHS_soft rfl hS0 (by intro w' hSw; obtain ⟨hs1', hs2', hs3', hs4'⟩ := hSw; go_simp; rfl) ?_
            simp only [Act.put, List.setIfInBounds_toArray, List.set_cons_zero, List.set_cons_succ]
            refine wpHS_soft rfl hS0 (by intro w' hSw; obtain ⟨hs1', hs2', hs3', hs4'⟩ := hSw; go_simp; rfl) ?_
            simp only [Act.put, List.setIfInBounds_toArray, List.set_cons_zero, List.set_cons_succ]
            refine wpHS_soft rfl hS0 (by intro w' hSw; obtain ⟨hs1', hs2', hs3', hs4'⟩ := hSw; go_simp; rfl) ?_
            simp only [Act.put, List.setIfInBounds_toArray, List.set_cons_zero, List.set_cons_succ]
            refine wpHS_soft rfl hS0 (by intro w' hSw; obtain ⟨hs1', hs2', hs3', hs4'⟩ := hSw; go_simp; rfl) ?_
            simp only [Act.put, List.setIfInBounds_toArray, List.set_cons_zero, List.set_cons_succ]
            refine wpHS_soft rfl hS0 (by intro w' hSw; obtain ⟨hs1', hs2', hs3', hs4'⟩ := hSw; go_simp; rfl) ?_
            simp only [Act.put, List.setIfInBounds_toArray, List.set_cons_zero, List.set_cons_succ]
            refine wpHS_soft rfl hS0 (by intro w' hSw; obtain ⟨hs1', hs2', hs3', hs4'⟩ := hSw; go_simp; rfl) ?_
            simp only [Act.put, List.setIfInBounds_toArray, List.set_cons_zero, List.set_cons_succ]
            refine wpHS_soft rfl hS0 (by intro w' hSw; obtain ⟨hs1', hs2', hs3', hs4'⟩ := hSw; go_simp; rfl) ?_
            simp only [Act.put, List.setIfInBounds_toArray, List.set_cons_zero, List.set_cons_succ]
            refine wpHS_soft rfl hS0 (by intro w' hSw; obtain ⟨hs1', hs2', hs3', hs4'⟩ := hSw; go_simp; rfl) ?_
            simp only [Act.put, List.setIfInBounds_toArray, List.set_cons_zero, List.set_cons_succ]
            refine wpHS_run (w' := w4.drew.alloc (.cells #[.int .i64 (k : Int), .int .i64 c.a] 55)) rfl (by go_simp; rfl) ?_ ?_
            · exact fun _ => ⟨by go_simp, by go_simp, by go_simp, by go_simp⟩
            simp only [Act.put, List.setIfInBounds_toArray, List.set_cons_zero, List.set_cons_succ]
            refine wpHS_law rfl (wp_append_S _ (.tmp 110) (.tmp 115) _ rfl (w.heap.size + 4) 55 j0 _ 2 16 Try.underlying53 hj0 hy0 hy1 hy2 rfl y es2.length (es2.flatMap edgeCells) rfl (by have hO0 := HYO.out; (repeat (first | assumption | refine OwnS.drew ?_ | refine OwnS.drewN ?_ _ | refine OwnS.alloc ?_ _ | refine OwnS.setCell ?_ (by assumption) _))) ⟨w4.heap.size, 0, none⟩ 1 1 [.int .i64 (k : Int), .int .i64 c.a] rfl rfl (news_two _ _ _ _ (by go_simp) (by go_simp)) (by simp [Value.oneCell']) (by simp only [maxLen]; omega) (by omega) (by simp; omega) ?_)
            intro v2 w5 hown5 hgrow5 hat5
            have hfar : ∀ g o, g < w4.heap.size → y.ownBlock ≠ some g → w5.cell? ⟨g, o, none⟩ = w4.cell? ⟨g, o, none⟩ := fun g o hg hne => by
              rw [hgrow5.cell_far _ (by simp; omega) (fun e1 => hne e1.symm)]
              exact World.cell?_alloc_lt w4 _ ⟨g, o, none⟩ hg
            have hS3 : w5.cell? ⟨w.heap.size + 1 + 1 + 1, 1, none⟩ = some (.slice (some ⟨w.heap.size + 1, 0, none⟩) n n) ∧ w5.cell? ⟨wr.heap.size, 1, none⟩ = some (.int .i64 c.a) ∧ w5.cell? ⟨wr.heap.size, 2, none⟩ = some (.int .i64 c.b) ∧ w5.cell? ⟨w.heap.size + 1, c.b.toNat, none⟩ = some y := ⟨(hfar _ _ hz3 (fun e1 => by have := (HYL.out _ e1).1; omega)).trans hq1, (hfar _ _ hz2 hyne).trans hq2, (hfar _ _ hz2 hyne).trans hq3, (hfar _ _ hz4 (fun e1 => by have := (HYL.out _ e1).1; omega)).trans hyc⟩
            refine ⟨fun _ => hS3, ?_⟩
            simp only [Act.put, List.setIfInBounds_toArray, List.set_cons_zero, List.set_cons_succ]
            refine wpHS_soft rfl hS3 (by intro w' hSw; obtain ⟨hs1', hs2', hs3', hs4'⟩ := hSw; go_simp; rfl) ?_
            simp only [Act.put, List.setIfInBounds_toArray, List.set_cons_zero, List.set_cons_succ]
            have hfz5 : w5.frozen? ⟨w.heap.size + 1, c.b.toNat, none⟩ = false := by
              rw [hgrow5.frozen_far _ (by simp; omega) (fun e1 => by have := (HYL.out (w.heap.size + 1) e1.symm).1; omega)]
              exact (World.frozen?_of_block (Below.heap_alloc w4 _ _ hz4)).trans hyf
            obtain ⟨vg2, voff2, vcap2, hvf2, _, _, _, _, _⟩ := hown5.form (by omega)
            subst hvf2
            obtain ⟨hs1', hs2', hs3', hs4'⟩ := hS3
            refine wpHS_skip (w' := w5.setCell ⟨w.heap.size + 1, c.b.toNat, none⟩ (.slice (some ⟨vg2, voff2, none⟩) (es2.length + 1) vcap2)) rfl (by go_simp) (by simp) ?_
            refine wpHS_nil ?_
            clear hs1' hs2' hs3' hs4'
            go_wp2_with fail
            go_roundg (gk - 1)
            case measure => have := HK.out; omega
            case rel =>
              refine ⟨k + 1, by have := HK.out; omega, by go_num, fun i c' hi hc' => ?_, ?_, ?_, ?_⟩
              · by_cases hik : i = k
                · subst hik
                  rw [HLK.out] at hc'
                  cases hc'
                  simp [okCon, HIA.out, HK1.out, HIB.out]
                · exact HOK.out i c' (by omega) hc'
              · rw [← HFE.out]
                refine HBE2.out w5 _ ⟨k, c.a.toNat⟩ (fun q hq hne => ?_) ?_ ?_ ?_ (by omega)
                · rw [hgrow5.block q (by simp; omega) hne]
                  exact Below.heap_alloc w4 _ q (by omega)
                · have := hgrow5.size
                  simp at this
                  omega
                · have e1 : edgeCells ⟨k, c.a.toNat⟩ = [.int .i64 (k : Int), .int .i64 c.a] := by simp [edgeCells]; omega
                  rw [e1]
                  exact hown5
                · rcases hat5 with h1 | h1
                  · exact .inl h1
                  · exact .inr ⟨_, h1, by simp⟩
              · rw [marksUpto_equal l k c HLK.out (by rw [HK1.out]; omega)]
                have h2 : MarksOwn w5 (w.heap.size + 4) (w.heap.size + 1 + 1) (marksUpto l k) := HM4.out.grown HYO.out (by decide) (fun q hq hne => (hgrow5.block q (by simp; omega) hne).trans (Below.heap_alloc w4 _ q hq)) (fun e1 => by have := (HYL.out _ e1).1; omega)
                exact h2.kept fun g hg _ => Below.heap_setCell _ _ _ _ (by simp; omega)
              · refine Since.setCell (Since.grown (by (repeat (first | assumption | refine Since.drew ?_ | refine Since.drewN ?_ _ | refine Since.alloc ?_ _ | refine Since.setCell ?_ (by first | assumption | (simp; done) | (simp; omega) | omega) _))) hgrow5 (fun q hq => .inr ?_)) (by simp) _
                have := (HYL.out q hq).1
                have := HWs.out
                omega
        · have hkb1 : (c.kind == 1) = false := by simpa using hk1
          have HK1 := Lib.hid hk1
          clear hk1
          go_wp2_with fail
          go_ret3
          exact solve_bad HLK.out (by simp [okCon, hkb, hkb1]) (by (repeat (first | exact Below.refl _ _ | assumption | refine Below.trans ?_ (Below.mono (by assumption) (by first | omega | (simp; done) | (simp; omega))) | refine Below.alloc ?_ (by first | omega | (simp; done) | (simp; omega)) _ | refine Below.setCell ?_ (by first | omega | (simp; done) | (simp; omega)) _ | refine Below.drew ?_ | refine below_drewN ?_ _)))
    · have hkn : k = nl := by omega
      have hall : l.all (okCon n) = true := by
        rw [List.all_eq_true]
        intro c hc
        obtain ⟨i, hi, rfl⟩ := List.getElem_of_mem hc
        exact HOK.out i _ (by rw [hkn, ← HLl.out]; exact hi) (List.getElem?_eq_getElem hi)
      have hokc : ∀ c ∈ l, okCon n c = true := List.all_eq_true.1 hall
      have hG0 : GraphAt wr wr.heap.size AL (some ⟨w.heap.size + 1, 0, none⟩) (w.heap.size + 1 + 1) l (edgesM l n l.length) (marksUpto l l.length) := by
        have h1 := HE.out.read
        have h2 := HM.out.read
        rw [hkn, ← HLl.out] at h1 h2
        exact ⟨(HL.out.below hBw (Nat.le_refl _)).mono hBw.size, h1, h2⟩
      have hGO := graphOk l n hokc (by omega) (by rw [HLl.out]; omega)
      have hmem : ∀ v i, i ∈ marksUpto l l.length v → ∃ c, l[i]? = some c ∧ c.a = (v : Int) ∧ v < n := fun v i hi => by
        obtain ⟨c, hc, _, _, ha⟩ := (mem_marksUpto l l.length v i).1 hi
        have h1 := hokc c (List.mem_of_getElem? hc)
        simp [okCon, inB] at h1
        exact ⟨c, hc, ha, by omega⟩
      have hmlen : ∀ v, (marksUpto l l.length v).length ≤ nl := fun v => by
        have := marksUpto_len l l.length v
        have := HLl.out
        omega
      have HSU := Lib.hid (fun q : Nat => solveUpto_succ l n q)
      have HALL := Lib.hid hall
      have HG0 := Lib.hid hG0
      have HMEM := Lib.hid hmem
      have HML := Lib.hid hmlen
      clear HE HM HOK hokc hG0 hmem hmlen hkn hall HK
      generalize edgesM l n l.length = E at *
      generalize marksUpto l l.length = M at *
      rw [HLl.out] at hGO
      have HGO := Lib.hid hGO
      clear hGO
      obtain ⟨wo, rfl⟩ : ∃ wo : World, wo = wr := ⟨_, rfl⟩
      obtain ⟨go, rfl⟩ : ∃ go : Nat, go = gk := ⟨_, rfl⟩
      have hs0 : w.heap.size < wo.heap.size := by omega
      have hs3 : w.heap.size + 1 + 1 + 1 < wo.heap.size := by omega
      have hmkT := HTY.out
      have hmkB := HBO.out
      go_wp2_with fail
      clear hmkT hmkB hg1 hg2 hbox
      generalize hW2 : (wo.alloc (.cells ((List.replicate n zeroTy).flatMap tyCells).toArray 23)).alloc (.cells (Array.replicate n (.bool false)) 4) = W2
      have hW2s : W2.heap.size = wo.heap.size + 1 + 1 := by rw [← hW2]; simp
      have hW2b : Below wo.heap.size wo W2 := by rw [← hW2]; (repeat (first | exact Below.refl _ _ | assumption | refine Below.trans ?_ (Below.mono (by assumption) (by first | omega | (simp; done) | (simp; omega))) | refine Below.alloc ?_ (by first | omega | (simp; done) | (simp; omega)) _ | refine Below.setCell ?_ (by first | omega | (simp; done) | (simp; omega)) _ | refine Below.drew ?_ | refine below_drewN ?_ _))
      have hW2t : TysBlk W2 wo.heap.size (solveUpto l n 0).out := by rw [← hW2]; exact (Blk.new _ _ _).alloc _
      have hW2o : BoolsBlk W2 (wo.heap.size + 1) (solveUpto l n 0).seen := by
        rw [← hW2]
        have := Blk.new (wo.alloc (.cells ((List.replicate n zeroTy).flatMap tyCells).toArray 23)) 4 (Array.replicate n (.bool false))
        simpa [BoolsBlk, solveUpto] using this
      have HW2s := Lib.hid hW2s
      have HW2t := Lib.hid hW2t
      have HW2o := Lib.hid hW2o
      clear hW2s hW2t hW2o hW2
      go_loopg [12, 124] n (fun gk s12 s124 wr => ∃ k2 : Nat, k2 + gk = n ∧ s124 = .int .i64 k2 ∧ TysBlk wr wo.heap.size (solveUpto l n k2).out ∧ BoolsBlk wr (wo.heap.size + 1) (solveUpto l n k2).seen ∧ ChainsOwn wr (wo.heap.size + 2) s12 (solveUpto l n k2).chains ∧ Since (fun g => g = wo.heap.size ∨ g = wo.heap.size + 1) W2 wr)
      case atStart => exact ⟨0, by omega, rfl, HW2t.out, HW2o.out, ChainsOwn.nil _ _, Since.refl _ _⟩
      case round =>
        obtain ⟨k2, hk2, rfl, hT, hB, hC, hS2⟩ := hrel
        have hk2' : k2 ≤ n := by omega
        have HK2 := Lib.hid hk2
        have HT := Lib.hid hT
        have HB := Lib.hid hB
        have HC := Lib.hid hC
        clear hk2 hT hB hC
        have hzw : wo.heap.size + 2 ≤ wr.heap.size := by have := hS2.size; have := HW2s.out; omega
        have hBo : Below wo.heap.size wo wr := hW2b.trans (hS2.toBelow (by have := HW2s.out; omega) (by intro g hg; omega))
        have hGr := HG0.out.later hBo
        have HGr := Lib.hid hGr
        have hBg := (HWg.out.since hS (by omega)).below hBo hs3
        have hg0 := hBg.cell 0
        have hg1 := hBg.cell 1
        have hg2 := hBg.cell 2
        simp only [List.getElem?_toArray, List.getElem?_cons_zero, List.getElem?_cons_succ] at hg0 hg1 hg2
        clear hGr hBg
        have hsz0 : wo.heap.size < wr.heap.size := by omega
        have hsz1 : wo.heap.size + 1 < wr.heap.size := by omega
        have hsz3 : w.heap.size + 1 + 1 + 1 < wr.heap.size := by omega
        obtain ⟨hlo, hls, hlc⟩ := solveUpto_len l n k2
        have HLO := Lib.hid hlo
        have HLS := Lib.hid hls
        clear hlo hls
        by_cases hlt2 : k2 < n
        · have hcs := HB.out.cell (i := k2) (by rw [HLS.out]; exact hlt2)
          obtain ⟨sn, hsn⟩ : ∃ sn, (solveUpto l n k2).seen.getD k2 false = sn := ⟨_, rfl⟩
          rw [hsn] at hcs
          have HSN := Lib.hid hsn
          clear hsn
          have hk0 : (k2 : Int) < (n : Int) := by omega
          cases sn
          · go_wp2_with fail
            refine (distances_any _ _ _ n n E (some ⟨wr.heap.size, 0, none⟩) 1 1 [k2] _ (HGr.out.later (below_alloc _ _)).edges HGO.out.en HGO.out.eto HGO.out.len (by exact row_one _ _ _ _ (by simp) (by simp)) rfl (by omega) (by simp; omega) (by omega) (by omega)).mono ?_
            rintro e wd ⟨gd, rfl, hgd, hId, hbd⟩
            have hBd : Below wr.heap.size wr wd := (below_alloc _ _).trans (hbd.mono (by simp))
            simp only [World.size_alloc] at hgd
            have hGd := HGr.out.later hBd
            have HGd := Lib.hid hGd
            have hdl : (distM E n [k2]).length = n := (distM_dist E n [k2] HGO.out.eto (by simp; omega)).len
            have hBod : Below wo.heap.size wo wd := hBo.trans (hBd.mono (by omega))
            have hBd2 : BoolsBlk wd (wo.heap.size + 1) (solveUpto l n k2).seen := Blk.below HB.out hBd hsz1
            have hTd : TysBlk wd wo.heap.size (solveUpto l n k2).out := Blk.below HT.out hBd hsz0
            have hCd := HC.out.since (Since.below (Since.refl (fun _ => False) wr) hBd) (by intro g h; cases h)
            have hS2d := hS2.below hBd
            have HId := Lib.hid hId
            have HDL := Lib.hid hdl
            have HBd2 := Lib.hid hBd2
            have HTd := Lib.hid hTd
            have HCd := Lib.hid hCd
            have hzd : wr.heap.size ≤ wd.heap.size := hBd.size
            have hgdl : gd < wd.heap.size := hId.lt
            clear hGd hId hdl hBd2 hTd hCd hbd hcs hS2 HGr HB HT HC hBo
            have hgd0 : wd.cell? ⟨w.heap.size + 1 + 1 + 1, 0, none⟩ = _ := (hBd.cell (p := ⟨w.heap.size + 1 + 1 + 1, 0, none⟩) hsz3).trans hg0
            have hgd1 : wd.cell? ⟨w.heap.size + 1 + 1 + 1, 1, none⟩ = _ := (hBd.cell (p := ⟨w.heap.size + 1 + 1 + 1, 1, none⟩) hsz3).trans hg1
            have hgd2 : wd.cell? ⟨w.heap.size + 1 + 1 + 1, 2, none⟩ = _ := (hBd.cell (p := ⟨w.heap.size + 1 + 1 + 1, 2, none⟩) hsz3).trans hg2
            clear hg0 hg1 hg2 hBd
            obtain ⟨d, hd⟩ : ∃ d, distM E n [k2] = d := ⟨_, rfl⟩
            rw [hd] at HId HDL
            have HD := Lib.hid hd
            clear hd
            obtain ⟨wv, rfl⟩ : ∃ wv : World, wv = wr := ⟨_, rfl⟩
            obtain ⟨gv, rfl⟩ : ∃ gv : Nat, gv = gk := ⟨_, rfl⟩
            go_wp2_with fail
            go_loopg [15, 16, 136] n (fun gk s15 s16 s136 wr => ∃ q : Nat, q + gk = n ∧ s136 = .int .i64 q ∧ L3 wd (wo.heap.size + 1) (solveUpto l n k2).seen d M q s15 s16 wr)
            case atStart => exact ⟨0, by omega, rfl, L3.start _ _ HBd2.out⟩
            case round =>
              obtain ⟨q, hq, rfl, h3⟩ := hrel
              have hq' : q ≤ n := by omega
              have HQ := Lib.hid hq
              have H3 := Lib.hid h3
              clear hq
              have hx2 : wr.cell? ⟨w.heap.size + 1 + 1 + 1, 2, none⟩ = _ := (World.cell?_of_block (h3.since.block (w.heap.size + 1 + 1 + 1) (by omega) (by omega))).trans hgd2
              have hzx : wd.heap.size ≤ wr.heap.size := h3.since.size
              have hIx := HId.out.keep (h3.since.block gd hgdl (by omega))
              have hBox : Below wo.heap.size wo wr := hBod.trans (h3.since.toBelow (by omega) (by intro g hg; omega))
              by_cases hlt3 : q < n
              ·
                have hcd := hIx.cell (i := q) (by rw [HDL.out]; exact hlt3)
                have hqn : (q : Int) < (n : Int) := by omega
                obtain ⟨dq, hdq⟩ : ∃ dq, d.getD q 0 = dq := ⟨_, rfl⟩
                rw [hdq] at hcd
                have HDQ := Lib.hid hdq
                clear hdq hIx
                have hs1 : gd < wr.heap.size := by omega
                by_cases hd0 : 0 ≤ dq
                · have hfz := h3.seen.frozen q
                  have hcb := h3.seen.cell (i := q) (by rw [setAll_len, HLS.out]; exact hlt3)
                  obtain ⟨_, f, hf, hfv⟩ := (HG0.out.below hBox (Nat.le_refl _)).marks
                  obtain ⟨AM, cM, hAM, hrM⟩ := hfv q
                  have hlkA : ∀ w' : World, IMap w' (w.heap.size + 1 + 1) f → (Instr.lookup 50 (.map (some (w.heap.size + 1 + 1))) (.int .i64 (q : Int)) false).run Try.prog w' = .ok (.slice AM (M q).length cM) w' := fun w' h' => by
                    rw [← hAM]
                    exact run_lookup_int (P := Try.prog) (t := 50) (kt := 3) (et := 33) Try.underlying50 Try.underlying3 zero_ints h' q
                  have HLKA := Lib.hid hlkA
                  have HF := Lib.hid hf
                  have HRM := Lib.hid hrM
                  have hl15 := fun g hg => h3.cls.lt g hg
                  have hl16 := fun g hg => h3.mks.lt g hg
                  have HL15 := Lib.hid hl15
                  have HL16 := Lib.hid hl16
                  have hlen1 : (clsUpto d q).length ≤ 5000 := by have := clsUpto_len d q; omega
                  have hlen2 : ((clsUpto d q).flatMap M).length ≤ 1000000 := by
                    have h1 := flat_len M nl HML.out (clsUpto d q)
                    have h2 := clsUpto_len d q
                    have h3 : (clsUpto d q).length * nl ≤ 5000 * 200 := Nat.mul_le_mul hlen1 hnl
                    omega
                  have hlen3 : (M q).length ≤ 200 := by have := HML.out q; omega
                  clear h3 hlkA hf hrM hAM hfv hl15 hl16
                  go_wp2_with fail
                  have hneM15 : u15.ownBlock ≠ some (w.heap.size + 1 + 1) := fun e => by have := (HL15.out _ e).1; omega
                  have hneM16 : u16.ownBlock ≠ some (w.heap.size + 1 + 1) := fun e => by have := (HL16.out _ e).1; omega
                  have hneG15 : u15.ownBlock ≠ some (w.heap.size + 1 + 1 + 1) := fun e => by have := (HL15.out _ e).1; omega
                  have hneG16 : u16.ownBlock ≠ some (w.heap.size + 1 + 1 + 1) := fun e => by have := (HL16.out _ e).1; omega
                  have hneS15 : u15.ownBlock ≠ some (wo.heap.size + 1) := fun e => by have := (HL15.out _ e).1; omega
                  have hneS16 : u16.ownBlock ≠ some (wo.heap.size + 1) := fun e => by have := (HL16.out _ e).1; omega
                  have hap : u16.ownBlock = none ∨ u16.ownBlock ≠ u15.ownBlock := by
                    cases h16 : u16.ownBlock with
                    | none => exact .inl rfl
                    | some g => exact .inr fun e => H3.out.apart g e.symm h16
                  have hKS : ∀ w' : World, Below wo.heap.size wr w' → w'.cell? ⟨w.heap.size + 1 + 1 + 1, 2, none⟩ = some (.map (some (w.heap.size + 1 + 1))) ∧ (Instr.lookup 50 (.map (some (w.heap.size + 1 + 1))) (.int .i64 (q : Int)) false).run Try.prog w' = .ok (.slice AM (M q).length cM) w' := fun w' hb =>
                    ⟨(hb.cell (p := ⟨w.heap.size + 1 + 1 + 1, 2, none⟩) hs3).trans hx2, HLKA.out _ (HF.out.below hb (by omega))⟩
                  have HKS := Lib.hid hKS
                  have hB15 : ∀ g, u15.ownBlock = some g → wo.heap.size ≤ g := fun g hg => by have := (HL15.out g hg).1; omega
                  have hB16 : ∀ g, u16.ownBlock = some g → wo.heap.size ≤ g := fun g hg => by have := (HL16.out g hg).1; omega
                  have HB15 := Lib.hid hB15
                  have HB16 := Lib.hid hB16
                  have HAP := Lib.hid hap
                  clear hKS hB15 hB16 hap
                  go_region_held3 (fun w' => w'.cell? ⟨w.heap.size + 1 + 1 + 1, 2, none⟩ = some (.map (some (w.heap.size + 1 + 1))) ∧ (Instr.lookup 50 (.map (some (w.heap.size + 1 + 1))) (.int .i64 (q : Int)) false).run Try.prog w' = .ok (.slice AM (M q).length cM) w') ((refine HKS.out _ ?_; (repeat (first | exact Below.refl _ _ | assumption | refine Below.trans ?_ (Below.mono (by assumption) (by first | omega | (simp; done) | (simp; omega))) | refine Below.alloc ?_ (by first | omega | (simp; done) | (simp; omega)) _ | refine Below.setCell ?_ (by first | omega | (simp; done) | (simp; omega)) _ | refine Below.drew ?_ | refine below_drewN ?_ _)))) (first | (refine step_append_S (o := ⟨some 149, _, _, _, _, _⟩) _ (by rfl) (.tmp 146) (.tmp 148) _ (by rfl) wd.heap.size 3 i0 _ 1 8 Try.underlying33 hi0 hz0 hz1 hz2 (by rfl) u15 (clsUpto d q).length (ivs ((clsUpto d q).map fun x : Nat => (x : Int))) (by rfl) (by have hO0 := H3.out.cls; (repeat (first | assumption | refine OwnS.drew ?_ | refine OwnS.drewN ?_ _ | refine OwnS.alloc ?_ _ | refine OwnS.setCell ?_ (by assumption) _))) ⟨wr.heap.size, 0, none⟩ 1 1 [.int .i64 (q : Int)] (by rfl) (by rfl) (news_one _ _ _ (by go_simp)) (by simp [Value.oneCell']) (by simp only [maxLen]; omega) (by omega) (by simp; omega) ?_; intro v1 w1 hown1 hgrow1 hat1; have hB1 : Below wo.heap.size wr w1 := (Below.grown (B := wo.heap.size) (by (repeat (first | exact Below.refl _ _ | assumption | refine Below.trans ?_ (Below.mono (by assumption) (by first | omega | (simp; done) | (simp; omega))) | refine Below.alloc ?_ (by first | omega | (simp; done) | (simp; omega)) _ | refine Below.setCell ?_ (by first | omega | (simp; done) | (simp; omega)) _ | refine Below.drew ?_ | refine below_drewN ?_ _))) hgrow1 (by simp; omega) HB15.out); have hz1w := hgrow1.size; simp at hz1w) | (refine step_append_Q (o := ⟨some 155, _, _, _, _, _⟩) _ (by rfl) (.tmp 150) (.tmp 154) _ (by rfl) wd.heap.size 3 i0 _ 1 8 Try.underlying33 hi0 hz0 hz1 hz2 (by rfl) (by omega) u16 ((clsUpto d q).flatMap M).length (ivs (((clsUpto d q).flatMap M).map fun x : Nat => (x : Int))) (by rfl) (OwnS.kept (by have hO0 := H3.out.mks; (repeat (first | assumption | refine OwnS.drew ?_ | refine OwnS.drewN ?_ _ | refine OwnS.alloc ?_ _ | refine OwnS.setCell ?_ (by assumption) _))) hgrow1 HAP.out) AM (M q).length cM (ivs ((M q).map fun x : Nat => (x : Int))) (by rfl) (by simp) (RowAt.news (RowAt.below HRM.out hB1 (Nat.le_refl _))) (ivs_one _) (by simp only [maxLen]; omega) (by omega) (by omega) ?_; intro v2 w2 hown2 hgrow2 hat2; have hB2 : Below wo.heap.size wr w2 := hB1.grown hgrow2 (by omega) HB16.out))
                  all_goals
                    go_wp2_with fail
                    go_roundg (gk - 1)
                    case measure => have := HQ.out; omega
                    case rel =>
                      refine ⟨q + 1, by have := HQ.out; omega, by go_num, H3.out.yes (by rw [HDQ.out]; exact hd0) (by omega) ?_ ?_ ?_ hown1 hgrow1 hat1 hown2 hgrow2 hat2⟩
                      · have h1 := (H3.out.seen).set q true
                        unfold BoolsBlk at h1 ⊢
                        (repeat (first | assumption | refine Blk.drew ?_ | refine Blk.drewN ?_ _ | refine Blk.alloc ?_ _ | refine Blk.far ?_ (by first | assumption | omega | (simp; omega)) _))
                      · have h1 := H3.out.since
                        (repeat (first | assumption | refine Since.drew ?_ | refine Since.drewN ?_ _ | refine Since.alloc ?_ _ | refine Since.setCell ?_ (by first | assumption | (simp; done) | (simp; omega) | omega) _))
                      · simp
                · clear h3
                  go_wp2_with fail
                  go_roundg (gk - 1)
                  case measure => have := HQ.out; omega
                  case rel => exact ⟨q + 1, by have := HQ.out; omega, by go_num, H3.out.no (by rw [HDQ.out]; omega)⟩
              · have hqn : n = q := by omega
                subst hqn
                clear h3 hx2 hIx
                have hmkN : ((clsUpto d n).flatMap M).length ≤ 1000000 := by
                  have h1 := flat_len M nl HML.out (clsUpto d n)
                  have h2 := clsUpto_len d n
                  have h3 : (clsUpto d n).length * nl ≤ 5000 * 200 := Nat.mul_le_mul (by omega) hnl
                  omega
                have hmk0 := H3.out.mks
                have hcl0 := H3.out.cls
                have hap0 := H3.out.apart
                have hse0 := H3.out.seen
                have hsi0 := H3.out.since
                clear H3
                obtain ⟨N, hN⟩ : ∃ N, ((clsUpto d n).flatMap M).length = N := ⟨_, rfl⟩
                rw [hN] at hmk0 hmkN
                obtain ⟨NC, hNC⟩ : ∃ NC, (clsUpto d n).length = NC := ⟨_, rfl⟩
                have hNCn : NC ≤ n := by rw [← hNC]; exact clsUpto_len d n
                rw [hNC] at hcl0
                have hmsl : (marksOfClass M (clsUpto d n)).length = N := by
                  unfold marksOfClass
                  rw [sortI, List.length_map]
                  exact hN
                obtain ⟨A16, c16, h16, -, -⟩ := hmk0.shape
                subst h16
                obtain ⟨A15, c15, h15, -, -⟩ := hcl0.shape
                subst h15
                have HMK0 := Lib.hid hmk0
                have HCL0 := Lib.hid hcl0
                have HAP0 := Lib.hid hap0
                have HSE0 := Lib.hid hse0
                have HSI0 := Lib.hid hsi0
                have HNC := Lib.hid hNC
                have HMSL0 := Lib.hid hmsl
                clear hN hNC hmk0 hcl0 hap0 hse0 hsi0 hmsl
                go_wp2_with fail
                refine (Sort_any _ wd.heap.size _ _ _ HMK0.out hmkN).mono ?_
                rintro e ws ⟨rfl, hos, hgs⟩
                have hl16 := fun g hg => HMK0.out.lt g hg
                have hap : (Value.slice A15 NC c15).ownBlock = none ∨ (Value.slice A15 NC c15).ownBlock ≠ (Value.slice A16 N c16).ownBlock := by
                  cases h15 : (Value.slice A15 NC c15).ownBlock with
                  | none => exact .inl rfl
                  | some g => exact .inr fun e => HAP0.out g h15 e.symm
                have hcl := HCL0.out.kept hgs hap
                have hsn2 : BoolsBlk ws (wo.heap.size + 1) (setAll true (solveUpto l n k2).seen (clsUpto d n)) := Blk.grown HSE0.out hgs (fun e => by have := (hl16 _ e.symm).1; omega)
                have hss : Since (fun g => g = wo.heap.size + 1) wd ws := HSI0.out.grown hgs (fun g hg => .inr (hl16 g hg).1)
                have hgdx := hss.size
                clear hgs hl16 hap HMK0 HCL0 HAP0 HSE0 HSI0
                replace hos : OwnS ws wd.heap.size 3 1 _ _ (ivs (marksOfClass M (clsUpto d n))) := hos
                have hmsm : ∀ z ∈ marksOfClass M (clsUpto d n), ∃ (i s0 : Nat) (c : Con), z = (i : Int) ∧ l[i]? = some c ∧ c.a = (s0 : Int) ∧ s0 < n := fun z hz => by
                  obtain ⟨i, v, rfl, _, hi⟩ := marks_mem hz
                  obtain ⟨c, hc, ha, hv⟩ := HMEM.out v i hi
                  exact ⟨i, v, c, rfl, hc, ha, hv⟩
                obtain ⟨ms, hms⟩ : ∃ ms, marksOfClass M (clsUpto d n) = ms := ⟨_, rfl⟩
                rw [hms] at hos hmsm HMSL0
                have HMSM := Lib.hid hmsm
                have HMS := Lib.hid hms
                have HMSL := HMSL0
                have HOS := Lib.hid hos
                have HCL := Lib.hid hcl
                have HSN2 := Lib.hid hsn2
                clear hmsm hms hos hcl hsn2 HMSL0
                go_wp2_with fail
                generalize hwt : ws.alloc (.cells #[.int .i64 0, .int .i64 0, .string ⟨#[]⟩] 23) = wt
                have hwts : wt.heap.size = ws.heap.size + 1 := by rw [← hwt]; simp
                have hwtb : Below ws.heap.size ws wt := by rw [← hwt]; (repeat (first | exact Below.refl _ _ | assumption | refine Below.trans ?_ (Below.mono (by assumption) (by first | omega | (simp; done) | (simp; omega))) | refine Below.alloc ?_ (by first | omega | (simp; done) | (simp; omega)) _ | refine Below.setCell ?_ (by first | omega | (simp; done) | (simp; omega)) _ | refine Below.drew ?_ | refine below_drewN ?_ _))
                have hwtB : Blk wt ws.heap.size 23 (tyVals zeroTy) := by rw [← hwt]; exact Blk.new _ _ _
                have HWTs := Lib.hid hwts
                have HWTB := Lib.hid hwtB
                clear hwts hwtB hwt
                obtain ⟨wy, rfl⟩ : ∃ wy : World, wy = wr := ⟨_, rfl⟩
                obtain ⟨gy, rfl⟩ : ∃ gy : Nat, gy = gk := ⟨_, rfl⟩
                go_loopg [19, 161] N (fun gk s19 s161 wr => ∃ q4 : Nat, q4 + gk = N ∧ s161 = .int .i64 q4 ∧ BestAt wr wt.heap.size ((ms.take q4).foldl (bestStep E n l M) (none, zeroTy)).1 s19 ∧ Blk wr ws.heap.size 23 (tyVals ((ms.take q4).foldl (bestStep E n l M) (none, zeroTy)).2) ∧ Since (fun g => g = ws.heap.size) wt wr)
                case atStart => exact ⟨0, by omega, rfl, BestAt.none, HWTB.out, Since.refl _ _⟩
                case round =>
                  obtain ⟨q4, hq4, rfl, hbest, hty, hS4⟩ := hrel
                  have hq4' : q4 ≤ N := by omega
                  have HQ4 := Lib.hid hq4
                  clear hq4
                  have hzt : wt.heap.size ≤ wr.heap.size := hS4.size
                  have hwts2 := HWTs.out
                  have hBsw : Below ws.heap.size ws wr := hwtb.trans (hS4.toBelow (by omega) (by intro g hg; omega))
                  have hBdw : Below wo.heap.size wd wr := (hss.toBelow (B := wo.heap.size) (by omega) (by intro g hg; omega)).trans (hBsw.mono (by omega))
                  have hBox : Below wo.heap.size wo wr := hBod.trans hBdw
                  have hzs : ws.heap.size < wr.heap.size := by omega
                  clear hwts2
                  by_cases hlt4 : q4 < N
                  ·
                    have hq4l : q4 < ms.length := by rw [HMSL.out]; exact hlt4
                    have hms4 : ms[q4]? = some ms[q4] := List.getElem?_eq_getElem hq4l
                    generalize ms[q4] = z at hms4
                    obtain ⟨i, s0, c, rfl, hci, hca, hs0n⟩ := HMSM.out z (List.mem_of_getElem? hms4)
                    have hstep := foldl_take_succ (bestStep E n l M) (none, zeroTy) ms q4 _ hms4
                    obtain ⟨⟨b1, b2⟩, hB⟩ : ∃ B, (ms.take q4).foldl (bestStep E n l M) (none, zeroTy) = B := ⟨_, rfl⟩
                    rw [hB, bestStep_eq hci hca] at hstep
                    rw [hB] at hbest hty
                    simp only at hbest hty hstep
                    have hosx := HOS.out.below (B := ws.heap.size) hBsw (fun g hg => (HOS.out.lt g hg).2)
                    obtain ⟨mg, moff, mcap, hmv, -, -, -, hmlt, hmc⟩ := hosx.form (by omega)
                    have hcm : wr.cell? ⟨mg, moff + q4, none⟩ = some (.int .i64 (i : Int)) := hmc q4 _ (by rw [List.getElem?_map, hms4]; rfl)
                    clear hmc hosx hms4 hB
                    cases hmv
                    have hGx := HG0.out.below hBox (Nat.le_refl _)
                    obtain ⟨lb, loff, hA, hlb, hlc⟩ := hGx.cons i c hci
                    subst hA
                    have hl3 : wr.cell? ⟨lb, loff + i * 8 + 3, none⟩ = some (.int .i64 c.tk) := hlc 3 _ rfl
                    have hl4 : wr.cell? ⟨lb, loff + i * 8 + 3 + 1, none⟩ = some (.int .i64 c.tl) := hlc 4 _ rfl
                    have hl5 : wr.cell? ⟨lb, loff + i * 8 + 3 + 2, none⟩ = some (.string c.tr) := hlc 5 _ rfl
                    have hinl : i < nl := by rw [← HLl.out]; exact (List.getElem?_eq_some_iff.1 hci).1
                    have hx0 : wr.cell? ⟨w.heap.size + 1 + 1 + 1, 0, none⟩ = _ := (hBdw.cell (p := ⟨w.heap.size + 1 + 1 + 1, 0, none⟩) hs3).trans hgd0
                    have hx1 : wr.cell? ⟨w.heap.size + 1 + 1 + 1, 1, none⟩ = _ := (hBdw.cell (p := ⟨w.heap.size + 1 + 1 + 1, 1, none⟩) hs3).trans hgd1
                    have hx2 : wr.cell? ⟨w.heap.size + 1 + 1 + 1, 2, none⟩ = _ := (hBdw.cell (p := ⟨w.heap.size + 1 + 1 + 1, 2, none⟩) hs3).trans hgd2
                    have ht0 : wr.cell? ⟨ws.heap.size, 0, none⟩ = some (.int .i64 b2.k) := hty.cell 0
                    have ht1 : wr.cell? ⟨ws.heap.size, 1, none⟩ = some (.int .i64 b2.n) := hty.cell 1
                    have ht2 : wr.cell? ⟨ws.heap.size, 2, none⟩ = some (.string b2.r) := hty.cell 2
                    have hf0 := hty.frozen 0
                    have hf1 := hty.frozen 1
                    have hf2 := hty.frozen 2
                    have hlbs : lb < wr.heap.size := by omega
                    have hGl := HG0.out.later hBox
                    have HGL := Lib.hid hGl
                    have HCI := Lib.hid hci
                    have HCA := Lib.hid hca
                    have HST := Lib.hid hstep
                    have HBE := Lib.hid hbest
                    have HTY := Lib.hid hty
                    clear hGl hGx hlc hci hca hstep hbest hty
                    go_wp2_with fail
                    refine (chain_any (some ⟨lb, loff, none⟩) (some ⟨w.heap.size + 1, 0, none⟩) nl cL n n (w.heap.size + 1 + 1) l E M i s0 wr HGL.out HGO.out c HCI.out HCA.out hs0n).mono ?_
                    intro e wc hpost
                    have hcne := chainFrom_ne E n (otherM l M i) i s0
                    obtain ⟨r, hr⟩ : ∃ r, chainFrom E n (otherM l M i) i s0 = r := ⟨_, rfl⟩
                    rw [hr] at hpost HST hcne
                    have HCNE := Lib.hid hcne
                    clear hr hcne
                    have htk : (c.tk != 5) = false ∨ ((c.tk != 5) = true ∧ (c.tk != 6) = false) ∨ ((c.tk != 5) = true ∧ (c.tk != 6) = true) := by
                      cases (c.tk != 5) <;> cases (c.tk != 6) <;> simp
                    cases r with
                    | none =>
                      obtain ⟨rfl, hbc⟩ := hpost
                      obtain ⟨hcc, hcf⟩ := bcell hbc
                      have hzc := hbc.size
                      have hnew : BestAt wc wt.heap.size (pickBest b1 none) u19 := HBE.out.keep (fun g _ hlt => hbc.block g hlt)
                      have HNEW := Lib.hid hnew
                      have hSc := hS4.below hbc
                      have HTYc := Lib.hid (HTY.out.below hbc hzs)
                      clear hnew hbc
                      rcases htk with h5 | ⟨h5, h6⟩ | ⟨h5, h6⟩
                      · go_wp2_with fail
                        go_roundg (gk - 1)
                        case measure => have := HQ4.out; omega
                        case rel =>
                          refine ⟨q4 + 1, by have := HQ4.out; omega, by go_num, ?_, ?_, by (repeat (first | assumption | refine Since.drew ?_ | refine Since.drewN ?_ _ | refine Since.alloc ?_ _ | refine Since.setCell ?_ (by first | assumption | (simp; done) | (simp; omega) | omega) _))⟩
                          · rw [HST.out]; exact HNEW.out
                          · rw [HST.out, show (if c.tk ≠ 5 ∧ c.tk ≠ 6 then c.mark else b2) = b2 from if_neg (by simp at h5; simp [h5])]; exact HTYc.out
                      · go_wp2_with fail
                        go_roundg (gk - 1)
                        case measure => have := HQ4.out; omega
                        case rel =>
                          refine ⟨q4 + 1, by have := HQ4.out; omega, by go_num, ?_, ?_, by (repeat (first | assumption | refine Since.drew ?_ | refine Since.drewN ?_ _ | refine Since.alloc ?_ _ | refine Since.setCell ?_ (by first | assumption | (simp; done) | (simp; omega) | omega) _))⟩
                          · rw [HST.out]; exact HNEW.out
                          · rw [HST.out, show (if c.tk ≠ 5 ∧ c.tk ≠ 6 then c.mark else b2) = b2 from if_neg (by simp at h6; simp [h6])]; exact HTYc.out
                      · go_wp2_with fail
                        go_roundg (gk - 1)
                        case measure => have := HQ4.out; omega
                        case rel =>
                          refine ⟨q4 + 1, by have := HQ4.out; omega, by go_num, ?_, ?_, by (repeat (first | assumption | refine Since.drew ?_ | refine Since.drewN ?_ _ | refine Since.alloc ?_ _ | refine Since.setCell ?_ (by first | assumption | (simp; done) | (simp; omega) | omega) _))⟩
                          · rw [HST.out]
                            exact HNEW.out.keep (fun g hg _ => by
                              have h1 : g ≠ ws.heap.size := by have := HWTs.out; omega
                              rw [Below.heap_setCell _ _ _ _ h1, Below.heap_setCell _ _ _ _ h1, Below.heap_setCell _ _ _ _ h1])
                          · rw [HST.out, show (if c.tk ≠ 5 ∧ c.tk ≠ 6 then c.mark else b2) = c.mark from if_pos (by simp at h5 h6; exact ⟨h5, h6⟩)]
                            exact HTYc.out.set3 _ _ _
                    | some ch =>
                      obtain ⟨v, rfl, hov, hbc⟩ := hpost
                      have hchl : 0 < ch.length := List.length_pos_iff.2 (HCNE.out ch rfl)
                      obtain ⟨vg, voff, vcap, hvv, -, -, -, -, -⟩ := hov.form hchl
                      subst hvv
                      have hov2 := hov.mono (base' := wt.heap.size) hzt
                      obtain ⟨hcc, hcf⟩ := bcell hbc
                      have hzc := hbc.size
                      have HTYc := Lib.hid (HTY.out.below hbc hzs)
                      have hSc := hS4.below hbc
                      cases b1 with
                      | none =>
                        have h19 : u19 = .slice none 0 0 := HBE.out
                        subst h19
                        have hnew : BestAt wc wt.heap.size (pickBest none (some ch)) (.slice (some ⟨vg, voff, none⟩) ch.length vcap) := ⟨HCNE.out ch rfl, hov2⟩
                        have HNEW := Lib.hid hnew
                        have heq0 := run_eql_nil0
                        clear hnew hov hov2 hbc
                        rcases htk with h5 | ⟨h5, h6⟩ | ⟨h5, h6⟩
                        · go_wp2_with fail
                          go_roundg (gk - 1)
                          case measure => have := HQ4.out; omega
                          case rel =>
                            refine ⟨q4 + 1, by have := HQ4.out; omega, by go_num, ?_, ?_, by (repeat (first | assumption | refine Since.drew ?_ | refine Since.drewN ?_ _ | refine Since.alloc ?_ _ | refine Since.setCell ?_ (by first | assumption | (simp; done) | (simp; omega) | omega) _))⟩
                            · rw [HST.out]; exact HNEW.out
                            · rw [HST.out, show (if c.tk ≠ 5 ∧ c.tk ≠ 6 then c.mark else b2) = b2 from if_neg (by simp at h5; simp [h5])]; exact HTYc.out
                        · go_wp2_with fail
                          go_roundg (gk - 1)
                          case measure => have := HQ4.out; omega
                          case rel =>
                            refine ⟨q4 + 1, by have := HQ4.out; omega, by go_num, ?_, ?_, by (repeat (first | assumption | refine Since.drew ?_ | refine Since.drewN ?_ _ | refine Since.alloc ?_ _ | refine Since.setCell ?_ (by first | assumption | (simp; done) | (simp; omega) | omega) _))⟩
                            · rw [HST.out]; exact HNEW.out
                            · rw [HST.out, show (if c.tk ≠ 5 ∧ c.tk ≠ 6 then c.mark else b2) = b2 from if_neg (by simp at h6; simp [h6])]; exact HTYc.out
                        · go_wp2_with fail
                          go_roundg (gk - 1)
                          case measure => have := HQ4.out; omega
                          case rel =>
                            refine ⟨q4 + 1, by have := HQ4.out; omega, by go_num, ?_, ?_, by (repeat (first | assumption | refine Since.drew ?_ | refine Since.drewN ?_ _ | refine Since.alloc ?_ _ | refine Since.setCell ?_ (by first | assumption | (simp; done) | (simp; omega) | omega) _))⟩
                            · rw [HST.out]
                              exact HNEW.out.keep (fun g hg _ => by
                                have h1 : g ≠ ws.heap.size := by have := HWTs.out; omega
                                rw [Below.heap_setCell _ _ _ _ h1, Below.heap_setCell _ _ _ _ h1, Below.heap_setCell _ _ _ _ h1])
                            · rw [HST.out, show (if c.tk ≠ 5 ∧ c.tk ≠ 6 then c.mark else b2) = c.mark from if_pos (by simp at h5 h6; exact ⟨h5, h6⟩)]
                              exact HTYc.out.set3 _ _ _
                      | some old =>
                        have hold := HBE.out.2
                        have holdl : 0 < old.length := List.length_pos_iff.2 HBE.out.1
                        obtain ⟨og, ooff, ocap, hvv, -, -, -, -, -⟩ := hold.form holdl
                        subst hvv
                        have heq1 := fun w' => run_eql_nil w' og ooff old.length ocap
                        by_cases hll : ch.length < old.length
                        · have hnew : BestAt wc wt.heap.size (pickBest (some old) (some ch)) (.slice (some ⟨vg, voff, none⟩) ch.length vcap) := by
                            simp only [pickBest, if_pos hll]
                            exact ⟨HCNE.out ch rfl, hov2⟩
                          have HNEW := Lib.hid hnew
                          clear hnew hov hov2 hold hbc
                          rcases htk with h5 | ⟨h5, h6⟩ | ⟨h5, h6⟩
                          · go_wp2_with fail
                            go_roundg (gk - 1)
                            case measure => have := HQ4.out; omega
                            case rel =>
                              refine ⟨q4 + 1, by have := HQ4.out; omega, by go_num, ?_, ?_, by (repeat (first | assumption | refine Since.drew ?_ | refine Since.drewN ?_ _ | refine Since.alloc ?_ _ | refine Since.setCell ?_ (by first | assumption | (simp; done) | (simp; omega) | omega) _))⟩
                              · rw [HST.out]; exact HNEW.out
                              · rw [HST.out, show (if c.tk ≠ 5 ∧ c.tk ≠ 6 then c.mark else b2) = b2 from if_neg (by simp at h5; simp [h5])]; exact HTYc.out
                          · go_wp2_with fail
                            go_roundg (gk - 1)
                            case measure => have := HQ4.out; omega
                            case rel =>
                              refine ⟨q4 + 1, by have := HQ4.out; omega, by go_num, ?_, ?_, by (repeat (first | assumption | refine Since.drew ?_ | refine Since.drewN ?_ _ | refine Since.alloc ?_ _ | refine Since.setCell ?_ (by first | assumption | (simp; done) | (simp; omega) | omega) _))⟩
                              · rw [HST.out]; exact HNEW.out
                              · rw [HST.out, show (if c.tk ≠ 5 ∧ c.tk ≠ 6 then c.mark else b2) = b2 from if_neg (by simp at h6; simp [h6])]; exact HTYc.out
                          · go_wp2_with fail
                            go_roundg (gk - 1)
                            case measure => have := HQ4.out; omega
                            case rel =>
                              refine ⟨q4 + 1, by have := HQ4.out; omega, by go_num, ?_, ?_, by (repeat (first | assumption | refine Since.drew ?_ | refine Since.drewN ?_ _ | refine Since.alloc ?_ _ | refine Since.setCell ?_ (by first | assumption | (simp; done) | (simp; omega) | omega) _))⟩
                              · rw [HST.out]
                                exact HNEW.out.keep (fun g hg _ => by
                                  have h1 : g ≠ ws.heap.size := by have := HWTs.out; omega
                                  rw [Below.heap_setCell _ _ _ _ h1, Below.heap_setCell _ _ _ _ h1, Below.heap_setCell _ _ _ _ h1])
                              · rw [HST.out, show (if c.tk ≠ 5 ∧ c.tk ≠ 6 then c.mark else b2) = c.mark from if_pos (by simp at h5 h6; exact ⟨h5, h6⟩)]
                                exact HTYc.out.set3 _ _ _
                        · have hnew : BestAt wc wt.heap.size (pickBest (some old) (some ch)) (.slice (some ⟨og, ooff, none⟩) old.length ocap) := by
                            have h1 := HBE.out.keep (wy := wc) (fun g _ hlt => hbc.block g hlt)
                            simp only [pickBest, if_neg hll]
                            exact h1
                          have HNEW := Lib.hid hnew
                          clear hnew hov hov2 hold hbc
                          rcases htk with h5 | ⟨h5, h6⟩ | ⟨h5, h6⟩
                          · go_wp2_with fail
                            go_roundg (gk - 1)
                            case measure => have := HQ4.out; omega
                            case rel =>
                              refine ⟨q4 + 1, by have := HQ4.out; omega, by go_num, ?_, ?_, by (repeat (first | assumption | refine Since.drew ?_ | refine Since.drewN ?_ _ | refine Since.alloc ?_ _ | refine Since.setCell ?_ (by first | assumption | (simp; done) | (simp; omega) | omega) _))⟩
                              · rw [HST.out]; exact HNEW.out
                              · rw [HST.out, show (if c.tk ≠ 5 ∧ c.tk ≠ 6 then c.mark else b2) = b2 from if_neg (by simp at h5; simp [h5])]; exact HTYc.out
                          · go_wp2_with fail
                            go_roundg (gk - 1)
                            case measure => have := HQ4.out; omega
                            case rel =>
                              refine ⟨q4 + 1, by have := HQ4.out; omega, by go_num, ?_, ?_, by (repeat (first | assumption | refine Since.drew ?_ | refine Since.drewN ?_ _ | refine Since.alloc ?_ _ | refine Since.setCell ?_ (by first | assumption | (simp; done) | (simp; omega) | omega) _))⟩
                              · rw [HST.out]; exact HNEW.out
                              · rw [HST.out, show (if c.tk ≠ 5 ∧ c.tk ≠ 6 then c.mark else b2) = b2 from if_neg (by simp at h6; simp [h6])]; exact HTYc.out
                          · go_wp2_with fail
                            go_roundg (gk - 1)
                            case measure => have := HQ4.out; omega
                            case rel =>
                              refine ⟨q4 + 1, by have := HQ4.out; omega, by go_num, ?_, ?_, by (repeat (first | assumption | refine Since.drew ?_ | refine Since.drewN ?_ _ | refine Since.alloc ?_ _ | refine Since.setCell ?_ (by first | assumption | (simp; done) | (simp; omega) | omega) _))⟩
                              · rw [HST.out]
                                exact HNEW.out.keep (fun g hg _ => by
                                  have h1 : g ≠ ws.heap.size := by have := HWTs.out; omega
                                  rw [Below.heap_setCell _ _ _ _ h1, Below.heap_setCell _ _ _ _ h1, Below.heap_setCell _ _ _ _ h1])
                              · rw [HST.out, show (if c.tk ≠ 5 ∧ c.tk ≠ 6 then c.mark else b2) = c.mark from if_pos (by simp at h5 h6; exact ⟨h5, h6⟩)]
                                exact HTYc.out.set3 _ _ _
                  · have hqN : N = q4 := by omega
                    subst hqN
                    have htake : ms.take N = ms := List.take_of_length_le (by rw [HMSL.out]; exact Nat.le_refl _)
                    rw [htake] at hbest hty
                    obtain ⟨⟨b1, b2⟩, hB⟩ : ∃ B, ms.foldl (bestStep E n l M) (none, zeroTy) = B := ⟨_, rfl⟩
                    rw [hB] at hbest hty
                    simp only at hbest hty
                    have hclass : classM E n k2 = clsUpto d n := by rw [← HD.out]; rfl
                    have hfold : (marksOfClass M (classM E n k2)).foldl (bestStep E n l M) (none, zeroTy) = (b1, b2) := by rw [hclass, HMS.out]; exact hB
                    have hTx : TysBlk wr wo.heap.size (solveUpto l n k2).out := (Blk.since HTd.out hss (by omega)).below hBsw (by omega)
                    have hBx : BoolsBlk wr (wo.heap.size + 1) (setAll true (solveUpto l n k2).seen (clsUpto d n)) := Blk.below HSN2.out hBsw (by omega)
                    have hCx := (HCd.out.since hss (by intro g hg; omega)).since (Since.below (Since.refl (fun _ => False) ws) hBsw) (by intro g h; cases h)
                    have hSx := (hS2d.step hss (fun g hg => .inl (.inr hg))).below hBsw
                    have HFO := Lib.hid hfold
                    have HCLS := Lib.hid hclass
                    have HTX := Lib.hid hTx
                    have HBX := Lib.hid hBx
                    have HTY4 := Lib.hid hty
                    clear hB htake hfold hclass hTx hBx hty hlt4 hq4' HQ4
                    cases b1 with
                    | some ch =>
                      obtain ⟨hchn, hch⟩ := hbest
                      obtain ⟨k0, hk0, hk1, hk2z, hk3⟩ := info_parts ints_info
                      have hchl : 0 < ch.length := List.length_pos_iff.2 hchn
                      obtain ⟨og, ooff, ocap, hvv, -, -, -, -, -⟩ := hch.form hchl
                      subst hvv
                      have hne1 := fun w' => run_neq_nil w' og ooff ch.length ocap
                      obtain ⟨vals, hv1, hv2⟩ := hCx
                      have HV1 := Lib.hid hv1
                      have HV2 := Lib.hid hv2
                      have HCH := Lib.hid (hch.mono (base' := wo.heap.size + 2) (by have := HWTs.out; omega))
                      obtain ⟨nc, hnc⟩ : ∃ nc, (solveUpto l n k2).chains.length = nc := ⟨_, rfl⟩
                      rw [hnc] at HV1 hlc
                      have HNCX := Lib.hid hnc
                      clear hv1 hv2 hch hchn hnc
                      go_wp2_with (at_builtin; go_must (refine wpList_append_S _ rfl (.tmp 204) (.tmp 206) _ rfl (wo.heap.size + 2) 33 k0 _ 1 24 Try.underlying29 hk0 hk1 hk2z hk3 rfl u12 nc vals rfl (by exact HV1.out.alloc _) ⟨wr.heap.size, 0, none⟩ 1 1 [.slice (some ⟨og, ooff, none⟩) ch.length ocap] rfl rfl (news_one _ _ _ (by go_simp)) (by simp [Value.oneCell']) (by simp only [maxLen]; omega) (by omega) (by simp; omega) ?_); intro v' w4 hown hgrow hat)
                      go_roundg (gv - 1)
                      case measure => have := HK2.out; omega
                      case rel =>
                        have hst : solveUpto l n (k2 + 1) = _ := (HSU.out k2).trans (solveStep_chain HSN.out HFO.out)
                        have hl12 := fun g hg => HV1.out.lt g hg
                        refine ⟨k2 + 1, by have := HK2.out; omega, by go_num, ?_, ?_, ?_, ?_⟩
                        · rw [hst]
                          exact (Blk.alloc HTX.out _).grown hgrow (fun e1 => by have := (hl12 _ e1.symm).1; omega)
                        · rw [hst, HCLS.out]
                          exact (Blk.alloc HBX.out _).grown hgrow (fun e1 => by have := (hl12 _ e1.symm).1; omega)
                        · rw [hst]
                          have h1 := HV1.out
                          rw [← HNCX.out] at h1 hown
                          exact ChainsOwn.push h1 HV2.out HCH.out (fun g hg hne => (hgrow.block g (by simp; omega) hne).trans (Below.heap_alloc wr _ g hg)) hown
                        · exact (hSx.alloc _).grown hgrow (fun g hg => .inr (by have := (hl12 g hg).1; have := HW2s.out; omega))
                    | none =>
                      have h19 : u19 = .slice none 0 0 := hbest
                      subst h19
                      have hne0 := run_neq_nil0
                      clear hbest
                      have HCX := Lib.hid hCx
                      clear hCx
                      go_wp2_with fail
                      clear hne0
                      obtain ⟨wz, rfl⟩ : ∃ wz : World, wz = wr := ⟨_, rfl⟩
                      obtain ⟨gz, rfl⟩ : ∃ gz : Nat, gz = gk := ⟨_, rfl⟩
                      go_loopg [210] NC (fun gk s210 wr => ∃ q5 : Nat, q5 + gk = NC ∧ s210 = .int .i64 q5 ∧ TysBlk wr wo.heap.size (setAll b2 (solveUpto l n k2).out ((clsUpto d n).take q5)) ∧ Since (fun g => g = wo.heap.size) wz wr)
                      case atStart => exact ⟨0, by omega, rfl, HTX.out, Since.refl _ _⟩
                      case round =>
                        obtain ⟨q5, hq5, rfl, hT5, hS5⟩ := hrel
                        have hq5' : q5 ≤ NC := by omega
                        have HQ5 := Lib.hid hq5
                        have HT5 := Lib.hid hT5
                        clear hq5
                        have hzz : wz.heap.size ≤ wr.heap.size := hS5.size
                        by_cases hlt5 : q5 < NC
                        · have hcl5 : q5 < (clsUpto d n).length := by rw [HNC.out]; exact hlt5
                          have hcu : (clsUpto d n)[q5]? = some (clsUpto d n)[q5] := List.getElem?_eq_getElem hcl5
                          have hun : (clsUpto d n)[q5] < n := clsUpto_lt _ (List.getElem_mem hcl5)
                          generalize (clsUpto d n)[q5] = u at hcu hun
                          have hclz := (HCL.out.below (B := ws.heap.size) hBsw (fun g hg => (HCL.out.lt g hg).2)).since hS5 (fun g hg => by have := (HCL.out.lt g hg).1; omega)
                          obtain ⟨cg, coff, ccap, hcv, -, -, -, hclt, hcc⟩ := hclz.form (by omega)
                          have hcm : wr.cell? ⟨cg, coff + q5, none⟩ = some (.int .i64 (u : Int)) := hcc q5 _ (by rw [List.getElem?_map, List.getElem?_map, hcu]; rfl)
                          clear hcc hclz
                          cases hcv
                          have hun2 : (u : Int) < (n : Int) := by omega
                          have hty5 := HTY4.out.since hS5 (by omega)
                          have ht0 : wr.cell? ⟨ws.heap.size, 0, none⟩ = some (.int .i64 b2.k) := hty5.cell 0
                          have ht1 : wr.cell? ⟨ws.heap.size, 1, none⟩ = some (.int .i64 b2.n) := hty5.cell 1
                          have ht2 : wr.cell? ⟨ws.heap.size, 2, none⟩ = some (.string b2.r) := hty5.cell 2
                          have hul : u < (setAll b2 (solveUpto l n k2).out ((clsUpto d n).take q5)).length := by rw [setAll_len, HLO.out]; exact hun
                          obtain ⟨x, hx0, hx1, hx2⟩ := hT5.cells hul
                          have hf0 := Blk.frozen hT5 (u * 3)
                          have hf1 := Blk.frozen hT5 (u * 3 + 1)
                          have hf2 := Blk.frozen hT5 (u * 3 + 2)
                          have HCU := Lib.hid hcu
                          have HUL := Lib.hid hul
                          clear hT5 hcu hty5 hul
                          go_wp2_with fail
                          go_roundg (gk - 1)
                          case measure => have := HQ5.out; omega
                          case rel =>
                            refine ⟨q5 + 1, by have := HQ5.out; omega, by go_num, ?_, by (repeat (first | assumption | refine Since.drew ?_ | refine Since.drewN ?_ _ | refine Since.alloc ?_ _ | refine Since.setCell ?_ (by first | assumption | (simp; done) | (simp; omega) | omega) _))⟩
                            rw [take_snoc' _ _ _ HCU.out, setAll_snoc]
                            exact HT5.out.set HUL.out b2
                        · have hqN : NC = q5 := by omega
                          subst hqN
                          have htake : (clsUpto d n).take NC = clsUpto d n := List.take_of_length_le (by rw [HNC.out]; exact Nat.le_refl _)
                          rw [htake] at hT5
                          have HT6 := Lib.hid hT5
                          clear hT5 htake HT5
                          go_wp2_with fail
                          go_roundg (gv - 1)
                          case measure => have := HK2.out; omega
                          case rel =>
                            have hst : solveUpto l n (k2 + 1) = _ := (HSU.out k2).trans (solveStep_type HSN.out HFO.out)
                            refine ⟨k2 + 1, by have := HK2.out; omega, by go_num, ?_, ?_, ?_, ?_⟩
                            · rw [hst, HCLS.out]; exact HT6.out
                            · rw [hst, HCLS.out]; exact Blk.since HBX.out hS5 (by omega)
                            · rw [hst]; exact HCX.out.since hS5 (by intro g hg; omega)
                            · exact hSx.step hS5 (fun g hg => .inl (.inl hg))
          · go_wp2_with fail
            go_roundg (gk - 1)
            case measure => have := HK2.out; omega
            case rel =>
              have hst : solveUpto l n (k2 + 1) = solveUpto l n k2 := (HSU.out k2).trans (solveStep_seen HSN.out)
              refine ⟨k2 + 1, by have := HK2.out; omega, by go_num, ?_, ?_, ?_, hS2⟩
              · rw [hst]; exact HT.out
              · rw [hst]; exact HB.out
              · rw [hst]; exact HC.out
        · have hkn2 : k2 = n := by omega
          obtain ⟨A12, c12, hA12, hch⟩ := HC.out.read
          subst hA12
          have HCH := Lib.hid hch
          clear hch
          go_wp2_with fail
          go_ret3
          refine ⟨hBw.trans (hBo.mono (by omega)), ?_⟩
          rw [if_pos HALL.out]
          subst hkn2
          exact ⟨_, _, _, rfl, by omega, HT.out, HCH.out⟩

end Go.Proofs.Ytpdimehoepfgaaa
