/- ReportOrder: the law returns true for every source and every diagnostics. Part 4 of 17. -/
import Derived.Test.YtinpopjnnljkhaaGreatDoorOrd03
/- Diagnostic, walked. -/
namespace Go.Proofs.YtinpopjnnljkhaaGreatDoor
open Go.RowKit

set_option maxHeartbeats 16000000 in
set_option maxRecDepth 100000 in
theorem Diagnostic_any (s : ByteArray) (d : Dg) (A : Option Addr) (n c : Nat) (w : World) (hs : s.size ≤ 1500) (hf : fewD d) (ha : okI d.at_) (hfi : okI d.fin) (hc : okI d.code) (hT : TabOk w) (hch : RowAt 4 stCells w w.heap.size A d.chain) (hl : d.chain.length = n) :
    Calls Tryz.prog 12 #[.string s, .agg #[.int .i64 d.code, .int .i64 d.at_, .int .i64 d.fin, .string d.text, .slice A n c]] w fun e w' => (∃ v, e = .returned v ∧ OwnS w' w.heap.size 9 1 v (diagM s d).length (strV (diagM s d))) ∧ Below w.heap.size w w' := by
  obtain ⟨i0, hi0, hz0, hz1, hz2⟩ := info_parts str_info
  obtain ⟨ht, hn20, hxt⟩ := hf
  have HMSG := Lib.hid (fun (w : World) (h : TabOk w) => Message_any d (.slice A n c) w ht hc h)
  have hms := msgM_size ht hc
  obtain ⟨W, hW⟩ : ∃ W, w.alloc (.cells #[.int .i64 d.code, .int .i64 d.at_, .int .i64 d.fin, .string d.text, .slice A n c] 35) = W := ⟨_, rfl⟩
  have hb : Below w.heap.size w W := by rw [← hW]; exact below_alloc _ _
  have hx : Blk W w.heap.size 35 #[.int .i64 d.code, .int .i64 d.at_, .int .i64 d.fin, .string d.text, .slice A n c] := by rw [← hW]; exact Blk.new w _ _
  have HT := Lib.hid (hT.below hb)
  have HB := Lib.hid hb
  have HX := Lib.hid hx
  have HCH := Lib.hid hch
  have HLC := Lib.hid hl
  have HXT := Lib.hid hxt
  have hlt := hx.lt
  have hn20' : n ≤ 20 := by rw [← hl]; exact hn20
  have hdef : diagM s d = [posS s d.at_ ++ msgM d, lineM s (posL s d.at_).1.toNat, repB 32 (max ((posL s d.at_).2 - 1) 0) ++ repB 94 (marksM s d)] ++ d.chain.map (stepS s) := rfl
  have hpk := posL_ok s d.at_ (by omega)
  have hps := posS_size s d.at_ (by omega)
  have HPOS := Lib.hid (fun (w : World) => Position_any s d.at_ w (by omega))
  have HPS := Lib.hid (fun (w : World) (h : TabOk w) => position_any s d.at_ w (by omega) h)
  have HPX := Lib.hid (fun (z : Int) (w : World) (h : TabOk w) => position_any s z w (by omega) h)
  have hran : (posL s d.at_).1 ≤ 0 ∨ (0 ≤ d.at_ ∧ d.at_ ≤ s.size) := by
    unfold posL
    split
    · left; simp
    · right; omega
  obtain ⟨ln, hln⟩ : ∃ ln, lineM s (posL s d.at_).1.toNat = ln := ⟨_, rfl⟩
  have hlns : ln.size ≤ 1500 := by rw [← hln]; have := lineM_size s (posL s d.at_).1.toNat; omega
  have hmk : marksM s d = if 0 < (posL s d.at_).1 ∧ d.at_ < d.fin then max 1 (min (min d.fin (d.at_ + ln.size) - d.at_) (ln.size - (posL s d.at_).2 + 1)) else 1 := by unfold marksM; rw [hln]
  rw [hln] at hdef
  obtain ⟨li, hli⟩ : ∃ li, (posL s d.at_).1 = li := ⟨_, rfl⟩
  obtain ⟨co, hco⟩ : ∃ co, (posL s d.at_).2 = co := ⟨_, rfl⟩
  rw [hli] at hmk hpk hran hln HPOS
  rw [hco] at hmk hpk hdef HPOS
  have HLINE := Lib.hid (show ∀ w : World, Calls Tryz.prog 22 #[.string s, .int .i64 li] w fun e w' => e = .returned (.string ln) ∧ Below w.heap.size w w' from fun w => by
    have := Line_any s li.toNat w (by omega) (by omega)
    rw [show ((li.toNat : Nat) : Int) = li by omega, hln] at this
    exact this)
  obtain ⟨ps, hps2⟩ : ∃ ps, posS s d.at_ = ps := ⟨_, rfl⟩
  obtain ⟨ms, hms2⟩ : ∃ ms, msgM d = ms := ⟨_, rfl⟩
  rw [hps2] at hdef hps HPS
  rw [hms2] at hdef hms HMSG
  obtain ⟨mk, hmk2⟩ : ∃ mk, marksM s d = mk := ⟨_, rfl⟩
  rw [hmk2] at hdef hmk
  obtain ⟨k1, hk1⟩ : ∃ k1, max (co - 1) 0 = k1 := ⟨_, rfl⟩
  rw [hk1] at hdef
  have hk1b : 0 ≤ k1 ∧ k1 ≤ 4097 := by omega
  have hmkb : 1 ≤ mk ∧ mk ≤ 4000 := by rw [hmk]; split <;> omega
  have HR1 := Lib.hid (fun (w : World) => Repeat_any 32 k1 (by omega) (by omega) w)
  have HR2 := Lib.hid (fun (w : World) => Repeat_any 94 mk (by omega) (by omega) w)
  have hr1s := repB_size 32 k1
  have hr2s := repB_size 94 mk
  obtain ⟨r1, hr1⟩ : ∃ r1, repB 32 k1 = r1 := ⟨_, rfl⟩
  obtain ⟨r2, hr2⟩ : ∃ r2, repB 94 mk = r2 := ⟨_, rfl⟩
  rw [hr1] at hdef HR1 hr1s
  rw [hr2] at hdef HR2 hr2s
  have HDEF := Lib.hid hdef
  have HMK := Lib.hid hmk
  have HK1 := Lib.hid hk1
  obtain ⟨code, at_, fin, text, chain⟩ := d
  obtain ⟨B, hB⟩ : ∃ B, w.heap.size = B := ⟨_, rfl⟩
  have HBS := Lib.hid hB
  simp only at hW HX HMSG HCH HLC HXT ha hfi hran HPS HPOS HMK
  rw [hB] at HX HB hlt HCH
  have zc1 : ¬ (9223372036854775807 < ps.size + ms.size) := by omega
  have zc2 : ¬ (9223372036854775807 < r1.size + r2.size) := by omega
  have hwk : IntKind.i64.wrap (co - 1) = co - 1 := IntWalk.i64_in _ (by omega)
  clear hb hx hT hch hl hdef hmk hln hli hco hps2 hms2 hmk2 hk1 hr1 hr2 hxt hn20 ht hc hr1s hr2s
  have x1 : W.cell? ⟨B, 1, none⟩ = some (.int .i64 at_) := HX.out.cell 1
  have HKS := Lib.hid (show ∀ w' : World, Below W.heap.size W w' → (w'.cell? ⟨B, 0, none⟩ = some (.int .i64 code) ∧ w'.cell? ⟨B, 1, none⟩ = some (.int .i64 at_) ∧ w'.cell? ⟨B, 2, none⟩ = some (.int .i64 fin) ∧ w'.cell? ⟨B, 3, none⟩ = some (.string text) ∧ w'.cell? ⟨B, 4, none⟩ = some (.slice A n c)) from fun w' hb => by have h := HX.out.below hb hlt; exact ⟨h.cell 0, h.cell 1, h.cell 2, h.cell 3, h.cell 4⟩)
  go_enter Tryz.func12, Tryz.ntmps12
  go_wp2_with (rw [hW])
  clear hW
  refine (HPOS.out _).mono ?_
  rintro e w1 ⟨rfl, hb1⟩
  have HB1 := Lib.hid hb1
  clear hb1
  go_wp2_with fail
  refine (HLINE.out _).mono ?_
  rintro e w2 ⟨rfl, hb2⟩
  have HB2 := Lib.hid (HB1.out.trans (hb2.mono HB1.out.size))
  clear hb2 x1
  have hx2 := HX.out.below HB2.out hlt
  have y1 : w2.cell? ⟨B, 1, none⟩ = some (.int .i64 at_) := hx2.cell 1
  have y2 : w2.cell? ⟨B, 2, none⟩ = some (.int .i64 fin) := hx2.cell 2
  clear hx2
  by_cases hli0 : 0 < li
  · by_cases hfa : at_ < fin
    · have hr := hran
      have hmke : max 1 (min (min fin (at_ + (ln.size : Int)) - at_) ((ln.size : Int) - co + 1)) = mk := by rw [HMK.out, if_pos ⟨hli0, hfa⟩]
      have v1 : IntKind.i64.wrap (at_ + (ln.size : Int)) = at_ + (ln.size : Int) := IntWalk.i64_in _ (by omega)
      have v2 : IntKind.i64.wrap (min fin (at_ + (ln.size : Int)) - at_) = min fin (at_ + (ln.size : Int)) - at_ := IntWalk.i64_in _ (by omega)
      have v3 : IntKind.i64.wrap ((ln.size : Int) - co) = (ln.size : Int) - co := IntWalk.i64_in _ (by omega)
      have v4 : IntKind.i64.wrap ((ln.size : Int) - co + 1) = (ln.size : Int) - co + 1 := IntWalk.i64_in _ (by omega)
      go_wp2_with fail
      refine wp_region_HO (fun W' => W'.cell? ⟨B, 0, none⟩ = some (.int .i64 code) ∧ W'.cell? ⟨B, 1, none⟩ = some (.int .i64 at_) ∧ W'.cell? ⟨B, 2, none⟩ = some (.int .i64 fin) ∧ W'.cell? ⟨B, 3, none⟩ = some (.string text) ∧ W'.cell? ⟨B, 4, none⟩ = some (.slice A n c)) [] [(0, true), (1, true), (2, true), (4, true), (7, true), (8, true), (9, true), (10, true), (12, true), (3, false), (5, false), (6, true), (11, false), (13, false), (14, true), (15, false), (16, true)] (by kernel_rfl) (by kernel_rfl) rfl (by kernel_rfl) ?_
      have hS0 := HKS.out _ HB2.out.drew
      first | (refine wpHO_off rfl (by rfl) hS0 ?_) | (refine wpHO_soft rfl (by rfl) hS0 (by intro w1 hs1; obtain ⟨q0, q1, q2, q3, q4⟩ := hs1; go_simp; rfl) ?_)
      simp only [Act.put, List.setIfInBounds_toArray, List.set_cons_zero, List.set_cons_succ]
      first | (refine wpHO_off rfl (by rfl) hS0 ?_) | (refine wpHO_soft rfl (by rfl) hS0 (by intro w1 hs1; obtain ⟨q0, q1, q2, q3, q4⟩ := hs1; go_simp; rfl) ?_)
      simp only [Act.put, List.setIfInBounds_toArray, List.set_cons_zero, List.set_cons_succ]
      first | (refine wpHO_off rfl (by rfl) hS0 ?_) | (refine wpHO_soft rfl (by rfl) hS0 (by intro w1 hs1; obtain ⟨q0, q1, q2, q3, q4⟩ := hs1; go_simp; rfl) ?_)
      simp only [Act.put, List.setIfInBounds_toArray, List.set_cons_zero, List.set_cons_succ]
      first | (refine wpHO_off rfl (by rfl) hS0 ?_) | (refine wpHO_soft rfl (by rfl) hS0 (by intro w1 hs1; obtain ⟨q0, q1, q2, q3, q4⟩ := hs1; go_simp; rfl) ?_)
      simp only [Act.put, List.setIfInBounds_toArray, List.set_cons_zero, List.set_cons_succ]
      first | (refine wpHO_off rfl (by rfl) hS0 ?_) | (refine wpHO_soft rfl (by rfl) hS0 (by intro w1 hs1; obtain ⟨q0, q1, q2, q3, q4⟩ := hs1; go_simp; rfl) ?_)
      simp only [Act.put, List.setIfInBounds_toArray, List.set_cons_zero, List.set_cons_succ]
      first | (refine wpHO_off rfl (by rfl) hS0 ?_) | (refine wpHO_soft rfl (by rfl) hS0 (by intro w1 hs1; obtain ⟨q0, q1, q2, q3, q4⟩ := hs1; go_simp; rfl) ?_)
      simp only [Act.put, List.setIfInBounds_toArray, List.set_cons_zero, List.set_cons_succ]
      first | (refine wpHO_off rfl (by rfl) hS0 ?_) | (refine wpHO_soft rfl (by rfl) hS0 (by intro w1 hs1; obtain ⟨q0, q1, q2, q3, q4⟩ := hs1; go_simp; rfl) ?_)
      simp only [Act.put, List.setIfInBounds_toArray, List.set_cons_zero, List.set_cons_succ]
      first | (refine wpHO_off rfl (by rfl) hS0 ?_) | (refine wpHO_soft rfl (by rfl) hS0 (by intro w1 hs1; obtain ⟨q0, q1, q2, q3, q4⟩ := hs1; go_simp; rfl) ?_)
      simp only [Act.put, List.setIfInBounds_toArray, List.set_cons_zero, List.set_cons_succ]
      first | (refine wpHO_off rfl (by rfl) hS0 ?_) | (refine wpHO_soft rfl (by rfl) hS0 (by intro w1 hs1; obtain ⟨q0, q1, q2, q3, q4⟩ := hs1; go_simp; rfl) ?_)
      simp only [Act.put, List.setIfInBounds_toArray, List.set_cons_zero, List.set_cons_succ]
      refine wpHO_call rfl (by rfl) (by go_simp) ((HPS.out _ (HT.out.below HB2.out.drew)).mono ?_)
      rintro e w3 ⟨rfl, hb3⟩
      have HB3 := Lib.hid (HB2.out.drew.trans (hb3.mono HB2.out.drew.size))
      have hS3 := HKS.out _ HB3.out
      clear hb3 hS0
      refine ⟨_, rfl, fun _ => hS3, ?_⟩
      simp only [Act.put, List.setIfInBounds_toArray, List.set_cons_zero, List.set_cons_succ]
      refine wpHO_call rfl (by rfl) (by go_simp) ((HMSG.out _ (HT.out.below HB3.out)).mono ?_)
      rintro e w4 ⟨rfl, hb4⟩
      have HB4 := Lib.hid (HB3.out.trans (hb4.mono HB3.out.size))
      have hS4 := HKS.out _ HB4.out
      clear hb4 hS3
      refine ⟨_, rfl, fun _ => hS4, ?_⟩
      simp only [Act.put, List.setIfInBounds_toArray, List.set_cons_zero, List.set_cons_succ]
      first | (refine wpHO_off rfl (by rfl) hS4 ?_) | (refine wpHO_soft rfl (by rfl) hS4 (by intro w1 hs1; obtain ⟨q0, q1, q2, q3, q4⟩ := hs1; go_simp; rfl) ?_)
      simp only [Act.put, List.setIfInBounds_toArray, List.set_cons_zero, List.set_cons_succ]
      refine wpHO_call rfl (by rfl) (by first | (go_simp; done) | (go_simp; exact HK1.out)) ((HR1.out _).mono ?_)
      rintro e w5 ⟨rfl, hb5⟩
      have HB5 := Lib.hid (HB4.out.trans (hb5.mono HB4.out.size))
      have hS5 := HKS.out _ HB5.out
      clear hb5 hS4
      refine ⟨_, rfl, fun _ => hS5, ?_⟩
      simp only [Act.put, List.setIfInBounds_toArray, List.set_cons_zero, List.set_cons_succ]
      refine wpHO_call rfl (by rfl) (by go_simp) ((HR2.out _).mono ?_)
      rintro e w6 ⟨rfl, hb6⟩
      have HB6 := Lib.hid (HB5.out.trans (hb6.mono HB5.out.size))
      have hS6 := HKS.out _ HB6.out
      clear hb6 hS5
      refine ⟨_, rfl, fun _ => hS6, ?_⟩
      simp only [Act.put, List.setIfInBounds_toArray, List.set_cons_zero, List.set_cons_succ]
      first | (refine wpHO_off rfl (by rfl) hS6 ?_) | (refine wpHO_soft rfl (by rfl) hS6 (by intro w1 hs1; obtain ⟨q0, q1, q2, q3, q4⟩ := hs1; go_simp; rfl) ?_)
      simp only [Act.put, List.setIfInBounds_toArray, List.set_cons_zero, List.set_cons_succ]
      obtain ⟨w7, hw7⟩ : ∃ w7, w6.alloc (.cells #[.string (ps ++ ms), .string ln, .string (r1 ++ r2)] 9) = w7 := ⟨_, rfl⟩
      have hb7 : Below w6.heap.size w6 w7 := by rw [← hw7]; exact below_alloc _ _
      have HB7 := Lib.hid (HB6.out.trans (hb7.mono HB6.out.size))
      have hS7 := HKS.out _ HB7.out
      have HO7 : Hid (OwnS w7 W.heap.size 9 1 (.slice (some ⟨w6.heap.size, 0, none⟩) 3 3) 3 (strV [ps ++ ms, ln, r1 ++ r2])) := Lib.hid (OwnS.block (cur := #[.string (ps ++ ms), .string ln, .string (r1 ++ r2)]) HB6.out.size (by rw [← hw7]; exact Blk.new w6 _ _) (by simp only [maxLen]; omega) rfl)
      clear hb7 hS6
      refine wpHO_run (v := .slice (some ⟨w6.heap.size, 0, none⟩) 3 3) (w' := w7) rfl (by rfl) (by first | (go_simp; done) | (go_simp; exact hw7)) (fun _ => hS7) ?_
      clear hw7
      simp only [Act.put, List.setIfInBounds_toArray, List.set_cons_zero, List.set_cons_succ]
      first | (refine wpHO_off rfl (by rfl) hS7 ?_) | (refine wpHO_soft rfl (by rfl) hS7 (by intro w1 hs1; obtain ⟨q0, q1, q2, q3, q4⟩ := hs1; go_simp; rfl) ?_)
      simp only [Act.put, List.setIfInBounds_toArray, List.set_cons_zero, List.set_cons_succ]
      refine wpHO_nil ?_
      obtain ⟨q0, q1, q2, q3, q4⟩ := hS7
      clear q0 q1 q2 q3
      go_wp2_with fail
      clear q4
      obtain ⟨W7, hW7⟩ : ∃ W7 : World, W7 = w7 := ⟨_, rfl⟩
      go_loopg [9, 69] n (fun gk s9 s69 wr => ∃ k : Nat, k + gk = n ∧ s69 = .int .i64 k ∧ Below W.heap.size W wr ∧ OwnS wr W.heap.size 9 1 s9 (3 + k) (strV ([ps ++ ms, ln, r1 ++ r2] ++ (chain.take k).map (stepS s))))
      case atStart => exact ⟨0, by omega, rfl, HB7.out, by simpa using HO7.out⟩
      case round =>
        obtain ⟨k, hk, rfl, hB, ho⟩ := hrel
        have hk' : k ≤ n := by omega
        have HK := Lib.hid hk
        have HBr := Lib.hid hB
        have hbs := hB.size
        obtain ⟨xs, hxs⟩ : ∃ xs, strV ([ps ++ ms, ln, r1 ++ r2] ++ (chain.take k).map (stepS s)) = xs := ⟨_, rfl⟩
        rw [hxs] at ho
        have HXS := Lib.hid hxs
        have HO := Lib.hid ho
        clear hk ho hxs
        by_cases hlt9 : k < n
        · have hki : (k : Int) < (n : Int) := by omega
          have e1 : chain[k]? = some (chain[k]'(by rw [HLC.out]; exact hlt9)) := List.getElem?_eq_getElem _
          generalize chain[k]'(by rw [HLC.out]; exact hlt9) = x at e1
          have hxt9 := HXT.out x (List.mem_of_getElem? e1)
          have hstep : stepS s x = ⟨#[45, 32]⟩ ++ posS s x.at_ ++ stepW x := rfl
          have hpx := posS_size s x.at_ (by omega)
          have HPC := Lib.hid (HPX.out x.at_)
          have HSW : Hid (stepW x = if x.kind = 0 then ⟨#[116, 104, 105, 115, 32, 105, 115, 32]⟩ ++ x.text else ⟨#[116, 104, 101, 115, 101, 32, 104, 97, 118, 101, 32, 116, 104, 101, 32, 115, 97, 109, 101, 32, 116, 121, 112, 101]⟩) := Lib.hid rfl
          obtain ⟨b1, o1, hA1, hb1, hc1⟩ := (HCH.out.below (HB.out.trans (hB.mono (Nat.le_of_lt hlt))) (Nat.le_refl _)) k _ e1
          subst hA1
          have E1 := Lib.hid e1
          have HST := Lib.hid hstep
          obtain ⟨kd, xa, xf, xt⟩ := x
          simp only at hxt9 hpx HPC HSW
          obtain ⟨px, hpx2⟩ : ∃ px, posS s xa = px := ⟨_, rfl⟩
          rw [hpx2] at hpx HPC
          have HPX2 := Lib.hid hpx2
          clear hstep hpx2
          have y0 : wr.cell? ⟨b1, o1 + k * 4, none⟩ = some (.int .i64 kd) := by simpa using hc1 0 _ rfl
          have y1 : wr.cell? ⟨b1, o1 + k * 4 + 1, none⟩ = some (.int .i64 xa) := hc1 1 _ rfl
          have y2 : wr.cell? ⟨b1, o1 + k * 4 + 2, none⟩ = some (.int .i64 xf) := hc1 2 _ rfl
          have y3 : wr.cell? ⟨b1, o1 + k * 4 + 3, none⟩ = some (.string xt) := hc1 3 _ rfl
          obtain ⟨W3, hW3⟩ : ∃ W3, wr.alloc (.cells #[.int .i64 kd, .int .i64 xa, .int .i64 xf, .string xt] 83) = W3 := ⟨_, rfl⟩
          have h3b : Below wr.heap.size wr W3 := by rw [← hW3]; exact below_alloc _ _
          have h3x : Blk W3 wr.heap.size 83 #[.int .i64 kd, .int .i64 xa, .int .i64 xf, .string xt] := by rw [← hW3]; exact Blk.new wr _ _
          have z0 : W3.cell? ⟨wr.heap.size, 0, none⟩ = some (.int .i64 kd) := h3x.cell 0
          have z1 : W3.cell? ⟨wr.heap.size, 1, none⟩ = some (.int .i64 xa) := h3x.cell 1
          have z3 : W3.cell? ⟨wr.heap.size, 3, none⟩ = some (.string xt) := h3x.cell 3
          have HB3r := Lib.hid (HBr.out.trans (h3b.mono HBr.out.size))
          have HO3r := Lib.hid (HO.out.below h3b (fun g hg => (HO.out.lt g hg).2))
          clear h3b h3x hc1 e1 hB
          by_cases hkd : kd = 0
          · subst hkd
            have hcat0 : ¬ (9223372036854775807 < 8 + xt.size) := by omega
            go_wp2_with (rw [hW3])
            refine (HPC.out _ (HT.out.below HB3r.out)).mono ?_
            rintro e w4r ⟨rfl, hb4r⟩
            have hs4r := Nat.le_trans HB3r.out.size hb4r.size
            have HB4r := Lib.hid (HB3r.out.trans (hb4r.mono HB3r.out.size))
            have HO4r := Lib.hid (HO3r.out.below hb4r (fun g hg => (HO3r.out.lt g hg).2))
            clear hb4r
            have hcat1 : ¬ (9223372036854775807 < 2 + px.size) := by omega
            have hcat2 : ¬ (9223372036854775807 < 2 + px.size + (8 + xt.size)) := by omega
            go_wp2_with (at_builtin; go_must (refine wpList_append_S _ rfl (.tmp 79) (.tmp 87) _ rfl W.heap.size 9 i0 _ 1 16 Tryz.underlying24 hi0 hz0 hz1 hz2 rfl u9 (3 + k) xs rfl (HO4r.out.alloc _) ⟨w4r.heap.size, 0, none⟩ 1 1 [.string (⟨#[45, 32]⟩ ++ px ++ (⟨#[116, 104, 105, 115, 32, 105, 115, 32]⟩ ++ xt))] rfl rfl (news_one _ _ _ (by go_simp)) (by simp [Value.oneCell']) (by simp only [maxLen]; omega) (by omega) (by simp; omega) ?_); intro v' w4 hown hgrow hat)
            go_roundg (gk - 1)
            case measure => have := HK.out; omega
            case rel =>
              refine ⟨k + 1, by have := HK.out; omega, by go_num, ?_, ?_⟩
              · exact Below.grown (HB4r.out.alloc HB4r.out.size _) hgrow (by have := HB4r.out.size; simp; omega) (fun g hg => (HO4r.out.lt g hg).1)
              · rw [List.take_add_one, E1.out]
                rw [show strV ([ps ++ ms, ln, r1 ++ r2] ++ List.map (stepS s) (List.take k chain ++ Option.toList (some ⟨0, xa, xf, xt⟩))) = xs ++ [.string (stepS s ⟨0, xa, xf, xt⟩)] from by rw [← HXS.out]; simp [strV]]
                rw [HST.out, HSW.out, HPX2.out]
                exact hown
          · have hkd2 : (kd == 0) = false := by simp [hkd]
            go_wp2_with (rw [hW3])
            refine (HPC.out _ (HT.out.below HB3r.out)).mono ?_
            rintro e w4r ⟨rfl, hb4r⟩
            have hs4r := Nat.le_trans HB3r.out.size hb4r.size
            have HB4r := Lib.hid (HB3r.out.trans (hb4r.mono HB3r.out.size))
            have HO4r := Lib.hid (HO3r.out.below hb4r (fun g hg => (HO3r.out.lt g hg).2))
            clear hb4r
            have hcat1 : ¬ (9223372036854775807 < 2 + px.size) := by omega
            have hcat2 : ¬ (9223372036854775807 < 2 + px.size + (24)) := by omega
            go_wp2_with (at_builtin; go_must (refine wpList_append_S _ rfl (.tmp 79) (.tmp 87) _ rfl W.heap.size 9 i0 _ 1 16 Tryz.underlying24 hi0 hz0 hz1 hz2 rfl u9 (3 + k) xs rfl (HO4r.out.alloc _) ⟨w4r.heap.size, 0, none⟩ 1 1 [.string (⟨#[45, 32]⟩ ++ px ++ (⟨#[116, 104, 101, 115, 101, 32, 104, 97, 118, 101, 32, 116, 104, 101, 32, 115, 97, 109, 101, 32, 116, 121, 112, 101]⟩))] rfl rfl (news_one _ _ _ (by go_simp)) (by simp [Value.oneCell']) (by simp only [maxLen]; omega) (by omega) (by simp; omega) ?_); intro v' w4 hown hgrow hat)
            go_roundg (gk - 1)
            case measure => have := HK.out; omega
            case rel =>
              refine ⟨k + 1, by have := HK.out; omega, by go_num, ?_, ?_⟩
              · exact Below.grown (HB4r.out.alloc HB4r.out.size _) hgrow (by have := HB4r.out.size; simp; omega) (fun g hg => (HO4r.out.lt g hg).1)
              · rw [List.take_add_one, E1.out]
                rw [show strV ([ps ++ ms, ln, r1 ++ r2] ++ List.map (stepS s) (List.take k chain ++ Option.toList (some ⟨kd, xa, xf, xt⟩))) = xs ++ [.string (stepS s ⟨kd, xa, xf, xt⟩)] from by rw [← HXS.out]; simp [strV]]
                rw [HST.out, HSW.out, HPX2.out, if_neg hkd]
                exact hown
        · have hkn : k = n := by omega
          subst hkn
          go_wp2_with fail
          go_ret
          rw [HDEF.out, HBS.out]
          refine ⟨⟨_, rfl, ?_⟩, HB.out.trans (HBr.out.mono (Nat.le_of_lt hlt))⟩
          have := HO.out.mono (Nat.le_of_lt hlt)
          rw [← HXS.out, ← HLC.out, List.take_length] at this
          have e : (([ps ++ ms, ln, r1 ++ r2] : List ByteArray) ++ chain.map (stepS s)).length = 3 + chain.length := by simp; omega
          rw [e]
          exact this
    · have hm1 : mk = 1 := by rw [HMK.out, if_neg (fun h => hfa h.2)]
      subst hm1
      go_wp2_with fail
      refine wp_region_HO (fun W' => W'.cell? ⟨B, 0, none⟩ = some (.int .i64 code) ∧ W'.cell? ⟨B, 1, none⟩ = some (.int .i64 at_) ∧ W'.cell? ⟨B, 2, none⟩ = some (.int .i64 fin) ∧ W'.cell? ⟨B, 3, none⟩ = some (.string text) ∧ W'.cell? ⟨B, 4, none⟩ = some (.slice A n c)) [] [(0, true), (1, true), (2, true), (4, true), (7, true), (8, true), (9, true), (10, true), (12, true), (3, false), (5, false), (6, true), (11, false), (13, false), (14, true), (15, false), (16, true)] (by kernel_rfl) (by kernel_rfl) rfl (by kernel_rfl) ?_
      have hS0 := HKS.out _ HB2.out.drew
      first | (refine wpHO_off rfl (by rfl) hS0 ?_) | (refine wpHO_soft rfl (by rfl) hS0 (by intro w1 hs1; obtain ⟨q0, q1, q2, q3, q4⟩ := hs1; go_simp; rfl) ?_)
      simp only [Act.put, List.setIfInBounds_toArray, List.set_cons_zero, List.set_cons_succ]
      first | (refine wpHO_off rfl (by rfl) hS0 ?_) | (refine wpHO_soft rfl (by rfl) hS0 (by intro w1 hs1; obtain ⟨q0, q1, q2, q3, q4⟩ := hs1; go_simp; rfl) ?_)
      simp only [Act.put, List.setIfInBounds_toArray, List.set_cons_zero, List.set_cons_succ]
      first | (refine wpHO_off rfl (by rfl) hS0 ?_) | (refine wpHO_soft rfl (by rfl) hS0 (by intro w1 hs1; obtain ⟨q0, q1, q2, q3, q4⟩ := hs1; go_simp; rfl) ?_)
      simp only [Act.put, List.setIfInBounds_toArray, List.set_cons_zero, List.set_cons_succ]
      first | (refine wpHO_off rfl (by rfl) hS0 ?_) | (refine wpHO_soft rfl (by rfl) hS0 (by intro w1 hs1; obtain ⟨q0, q1, q2, q3, q4⟩ := hs1; go_simp; rfl) ?_)
      simp only [Act.put, List.setIfInBounds_toArray, List.set_cons_zero, List.set_cons_succ]
      first | (refine wpHO_off rfl (by rfl) hS0 ?_) | (refine wpHO_soft rfl (by rfl) hS0 (by intro w1 hs1; obtain ⟨q0, q1, q2, q3, q4⟩ := hs1; go_simp; rfl) ?_)
      simp only [Act.put, List.setIfInBounds_toArray, List.set_cons_zero, List.set_cons_succ]
      first | (refine wpHO_off rfl (by rfl) hS0 ?_) | (refine wpHO_soft rfl (by rfl) hS0 (by intro w1 hs1; obtain ⟨q0, q1, q2, q3, q4⟩ := hs1; go_simp; rfl) ?_)
      simp only [Act.put, List.setIfInBounds_toArray, List.set_cons_zero, List.set_cons_succ]
      first | (refine wpHO_off rfl (by rfl) hS0 ?_) | (refine wpHO_soft rfl (by rfl) hS0 (by intro w1 hs1; obtain ⟨q0, q1, q2, q3, q4⟩ := hs1; go_simp; rfl) ?_)
      simp only [Act.put, List.setIfInBounds_toArray, List.set_cons_zero, List.set_cons_succ]
      first | (refine wpHO_off rfl (by rfl) hS0 ?_) | (refine wpHO_soft rfl (by rfl) hS0 (by intro w1 hs1; obtain ⟨q0, q1, q2, q3, q4⟩ := hs1; go_simp; rfl) ?_)
      simp only [Act.put, List.setIfInBounds_toArray, List.set_cons_zero, List.set_cons_succ]
      first | (refine wpHO_off rfl (by rfl) hS0 ?_) | (refine wpHO_soft rfl (by rfl) hS0 (by intro w1 hs1; obtain ⟨q0, q1, q2, q3, q4⟩ := hs1; go_simp; rfl) ?_)
      simp only [Act.put, List.setIfInBounds_toArray, List.set_cons_zero, List.set_cons_succ]
      refine wpHO_call rfl (by rfl) (by go_simp) ((HPS.out _ (HT.out.below HB2.out.drew)).mono ?_)
      rintro e w3 ⟨rfl, hb3⟩
      have HB3 := Lib.hid (HB2.out.drew.trans (hb3.mono HB2.out.drew.size))
      have hS3 := HKS.out _ HB3.out
      clear hb3 hS0
      refine ⟨_, rfl, fun _ => hS3, ?_⟩
      simp only [Act.put, List.setIfInBounds_toArray, List.set_cons_zero, List.set_cons_succ]
      refine wpHO_call rfl (by rfl) (by go_simp) ((HMSG.out _ (HT.out.below HB3.out)).mono ?_)
      rintro e w4 ⟨rfl, hb4⟩
      have HB4 := Lib.hid (HB3.out.trans (hb4.mono HB3.out.size))
      have hS4 := HKS.out _ HB4.out
      clear hb4 hS3
      refine ⟨_, rfl, fun _ => hS4, ?_⟩
      simp only [Act.put, List.setIfInBounds_toArray, List.set_cons_zero, List.set_cons_succ]
      first | (refine wpHO_off rfl (by rfl) hS4 ?_) | (refine wpHO_soft rfl (by rfl) hS4 (by intro w1 hs1; obtain ⟨q0, q1, q2, q3, q4⟩ := hs1; go_simp; rfl) ?_)
      simp only [Act.put, List.setIfInBounds_toArray, List.set_cons_zero, List.set_cons_succ]
      refine wpHO_call rfl (by rfl) (by first | (go_simp; done) | (go_simp; exact HK1.out)) ((HR1.out _).mono ?_)
      rintro e w5 ⟨rfl, hb5⟩
      have HB5 := Lib.hid (HB4.out.trans (hb5.mono HB4.out.size))
      have hS5 := HKS.out _ HB5.out
      clear hb5 hS4
      refine ⟨_, rfl, fun _ => hS5, ?_⟩
      simp only [Act.put, List.setIfInBounds_toArray, List.set_cons_zero, List.set_cons_succ]
      refine wpHO_call rfl (by rfl) (by go_simp) ((HR2.out _).mono ?_)
      rintro e w6 ⟨rfl, hb6⟩
      have HB6 := Lib.hid (HB5.out.trans (hb6.mono HB5.out.size))
      have hS6 := HKS.out _ HB6.out
      clear hb6 hS5
      refine ⟨_, rfl, fun _ => hS6, ?_⟩
      simp only [Act.put, List.setIfInBounds_toArray, List.set_cons_zero, List.set_cons_succ]
      first | (refine wpHO_off rfl (by rfl) hS6 ?_) | (refine wpHO_soft rfl (by rfl) hS6 (by intro w1 hs1; obtain ⟨q0, q1, q2, q3, q4⟩ := hs1; go_simp; rfl) ?_)
      simp only [Act.put, List.setIfInBounds_toArray, List.set_cons_zero, List.set_cons_succ]
      obtain ⟨w7, hw7⟩ : ∃ w7, w6.alloc (.cells #[.string (ps ++ ms), .string ln, .string (r1 ++ r2)] 9) = w7 := ⟨_, rfl⟩
      have hb7 : Below w6.heap.size w6 w7 := by rw [← hw7]; exact below_alloc _ _
      have HB7 := Lib.hid (HB6.out.trans (hb7.mono HB6.out.size))
      have hS7 := HKS.out _ HB7.out
      have HO7 : Hid (OwnS w7 W.heap.size 9 1 (.slice (some ⟨w6.heap.size, 0, none⟩) 3 3) 3 (strV [ps ++ ms, ln, r1 ++ r2])) := Lib.hid (OwnS.block (cur := #[.string (ps ++ ms), .string ln, .string (r1 ++ r2)]) HB6.out.size (by rw [← hw7]; exact Blk.new w6 _ _) (by simp only [maxLen]; omega) rfl)
      clear hb7 hS6
      refine wpHO_run (v := .slice (some ⟨w6.heap.size, 0, none⟩) 3 3) (w' := w7) rfl (by rfl) (by first | (go_simp; done) | (go_simp; exact hw7)) (fun _ => hS7) ?_
      clear hw7
      simp only [Act.put, List.setIfInBounds_toArray, List.set_cons_zero, List.set_cons_succ]
      first | (refine wpHO_off rfl (by rfl) hS7 ?_) | (refine wpHO_soft rfl (by rfl) hS7 (by intro w1 hs1; obtain ⟨q0, q1, q2, q3, q4⟩ := hs1; go_simp; rfl) ?_)
      simp only [Act.put, List.setIfInBounds_toArray, List.set_cons_zero, List.set_cons_succ]
      refine wpHO_nil ?_
      obtain ⟨q0, q1, q2, q3, q4⟩ := hS7
      clear q0 q1 q2 q3
      go_wp2_with fail
      clear q4
      obtain ⟨W7, hW7⟩ : ∃ W7 : World, W7 = w7 := ⟨_, rfl⟩
      go_loopg [9, 69] n (fun gk s9 s69 wr => ∃ k : Nat, k + gk = n ∧ s69 = .int .i64 k ∧ Below W.heap.size W wr ∧ OwnS wr W.heap.size 9 1 s9 (3 + k) (strV ([ps ++ ms, ln, r1 ++ r2] ++ (chain.take k).map (stepS s))))
      case atStart => exact ⟨0, by omega, rfl, HB7.out, by simpa using HO7.out⟩
      case round =>
        obtain ⟨k, hk, rfl, hB, ho⟩ := hrel
        have hk' : k ≤ n := by omega
        have HK := Lib.hid hk
        have HBr := Lib.hid hB
        have hbs := hB.size
        obtain ⟨xs, hxs⟩ : ∃ xs, strV ([ps ++ ms, ln, r1 ++ r2] ++ (chain.take k).map (stepS s)) = xs := ⟨_, rfl⟩
        rw [hxs] at ho
        have HXS := Lib.hid hxs
        have HO := Lib.hid ho
        clear hk ho hxs
        by_cases hlt9 : k < n
        · have hki : (k : Int) < (n : Int) := by omega
          have e1 : chain[k]? = some (chain[k]'(by rw [HLC.out]; exact hlt9)) := List.getElem?_eq_getElem _
          generalize chain[k]'(by rw [HLC.out]; exact hlt9) = x at e1
          have hxt9 := HXT.out x (List.mem_of_getElem? e1)
          have hstep : stepS s x = ⟨#[45, 32]⟩ ++ posS s x.at_ ++ stepW x := rfl
          have hpx := posS_size s x.at_ (by omega)
          have HPC := Lib.hid (HPX.out x.at_)
          have HSW : Hid (stepW x = if x.kind = 0 then ⟨#[116, 104, 105, 115, 32, 105, 115, 32]⟩ ++ x.text else ⟨#[116, 104, 101, 115, 101, 32, 104, 97, 118, 101, 32, 116, 104, 101, 32, 115, 97, 109, 101, 32, 116, 121, 112, 101]⟩) := Lib.hid rfl
          obtain ⟨b1, o1, hA1, hb1, hc1⟩ := (HCH.out.below (HB.out.trans (hB.mono (Nat.le_of_lt hlt))) (Nat.le_refl _)) k _ e1
          subst hA1
          have E1 := Lib.hid e1
          have HST := Lib.hid hstep
          obtain ⟨kd, xa, xf, xt⟩ := x
          simp only at hxt9 hpx HPC HSW
          obtain ⟨px, hpx2⟩ : ∃ px, posS s xa = px := ⟨_, rfl⟩
          rw [hpx2] at hpx HPC
          have HPX2 := Lib.hid hpx2
          clear hstep hpx2
          have y0 : wr.cell? ⟨b1, o1 + k * 4, none⟩ = some (.int .i64 kd) := by simpa using hc1 0 _ rfl
          have y1 : wr.cell? ⟨b1, o1 + k * 4 + 1, none⟩ = some (.int .i64 xa) := hc1 1 _ rfl
          have y2 : wr.cell? ⟨b1, o1 + k * 4 + 2, none⟩ = some (.int .i64 xf) := hc1 2 _ rfl
          have y3 : wr.cell? ⟨b1, o1 + k * 4 + 3, none⟩ = some (.string xt) := hc1 3 _ rfl
          obtain ⟨W3, hW3⟩ : ∃ W3, wr.alloc (.cells #[.int .i64 kd, .int .i64 xa, .int .i64 xf, .string xt] 83) = W3 := ⟨_, rfl⟩
          have h3b : Below wr.heap.size wr W3 := by rw [← hW3]; exact below_alloc _ _
          have h3x : Blk W3 wr.heap.size 83 #[.int .i64 kd, .int .i64 xa, .int .i64 xf, .string xt] := by rw [← hW3]; exact Blk.new wr _ _
          have z0 : W3.cell? ⟨wr.heap.size, 0, none⟩ = some (.int .i64 kd) := h3x.cell 0
          have z1 : W3.cell? ⟨wr.heap.size, 1, none⟩ = some (.int .i64 xa) := h3x.cell 1
          have z3 : W3.cell? ⟨wr.heap.size, 3, none⟩ = some (.string xt) := h3x.cell 3
          have HB3r := Lib.hid (HBr.out.trans (h3b.mono HBr.out.size))
          have HO3r := Lib.hid (HO.out.below h3b (fun g hg => (HO.out.lt g hg).2))
          clear h3b h3x hc1 e1 hB
          by_cases hkd : kd = 0
          · subst hkd
            have hcat0 : ¬ (9223372036854775807 < 8 + xt.size) := by omega
            go_wp2_with (rw [hW3])
            refine (HPC.out _ (HT.out.below HB3r.out)).mono ?_
            rintro e w4r ⟨rfl, hb4r⟩
            have hs4r := Nat.le_trans HB3r.out.size hb4r.size
            have HB4r := Lib.hid (HB3r.out.trans (hb4r.mono HB3r.out.size))
            have HO4r := Lib.hid (HO3r.out.below hb4r (fun g hg => (HO3r.out.lt g hg).2))
            clear hb4r
            have hcat1 : ¬ (9223372036854775807 < 2 + px.size) := by omega
            have hcat2 : ¬ (9223372036854775807 < 2 + px.size + (8 + xt.size)) := by omega
            go_wp2_with (at_builtin; go_must (refine wpList_append_S _ rfl (.tmp 79) (.tmp 87) _ rfl W.heap.size 9 i0 _ 1 16 Tryz.underlying24 hi0 hz0 hz1 hz2 rfl u9 (3 + k) xs rfl (HO4r.out.alloc _) ⟨w4r.heap.size, 0, none⟩ 1 1 [.string (⟨#[45, 32]⟩ ++ px ++ (⟨#[116, 104, 105, 115, 32, 105, 115, 32]⟩ ++ xt))] rfl rfl (news_one _ _ _ (by go_simp)) (by simp [Value.oneCell']) (by simp only [maxLen]; omega) (by omega) (by simp; omega) ?_); intro v' w4 hown hgrow hat)
            go_roundg (gk - 1)
            case measure => have := HK.out; omega
            case rel =>
              refine ⟨k + 1, by have := HK.out; omega, by go_num, ?_, ?_⟩
              · exact Below.grown (HB4r.out.alloc HB4r.out.size _) hgrow (by have := HB4r.out.size; simp; omega) (fun g hg => (HO4r.out.lt g hg).1)
              · rw [List.take_add_one, E1.out]
                rw [show strV ([ps ++ ms, ln, r1 ++ r2] ++ List.map (stepS s) (List.take k chain ++ Option.toList (some ⟨0, xa, xf, xt⟩))) = xs ++ [.string (stepS s ⟨0, xa, xf, xt⟩)] from by rw [← HXS.out]; simp [strV]]
                rw [HST.out, HSW.out, HPX2.out]
                exact hown
          · have hkd2 : (kd == 0) = false := by simp [hkd]
            go_wp2_with (rw [hW3])
            refine (HPC.out _ (HT.out.below HB3r.out)).mono ?_
            rintro e w4r ⟨rfl, hb4r⟩
            have hs4r := Nat.le_trans HB3r.out.size hb4r.size
            have HB4r := Lib.hid (HB3r.out.trans (hb4r.mono HB3r.out.size))
            have HO4r := Lib.hid (HO3r.out.below hb4r (fun g hg => (HO3r.out.lt g hg).2))
            clear hb4r
            have hcat1 : ¬ (9223372036854775807 < 2 + px.size) := by omega
            have hcat2 : ¬ (9223372036854775807 < 2 + px.size + (24)) := by omega
            go_wp2_with (at_builtin; go_must (refine wpList_append_S _ rfl (.tmp 79) (.tmp 87) _ rfl W.heap.size 9 i0 _ 1 16 Tryz.underlying24 hi0 hz0 hz1 hz2 rfl u9 (3 + k) xs rfl (HO4r.out.alloc _) ⟨w4r.heap.size, 0, none⟩ 1 1 [.string (⟨#[45, 32]⟩ ++ px ++ (⟨#[116, 104, 101, 115, 101, 32, 104, 97, 118, 101, 32, 116, 104, 101, 32, 115, 97, 109, 101, 32, 116, 121, 112, 101]⟩))] rfl rfl (news_one _ _ _ (by go_simp)) (by simp [Value.oneCell']) (by simp only [maxLen]; omega) (by omega) (by simp; omega) ?_); intro v' w4 hown hgrow hat)
            go_roundg (gk - 1)
            case measure => have := HK.out; omega
            case rel =>
              refine ⟨k + 1, by have := HK.out; omega, by go_num, ?_, ?_⟩
              · exact Below.grown (HB4r.out.alloc HB4r.out.size _) hgrow (by have := HB4r.out.size; simp; omega) (fun g hg => (HO4r.out.lt g hg).1)
              · rw [List.take_add_one, E1.out]
                rw [show strV ([ps ++ ms, ln, r1 ++ r2] ++ List.map (stepS s) (List.take k chain ++ Option.toList (some ⟨kd, xa, xf, xt⟩))) = xs ++ [.string (stepS s ⟨kd, xa, xf, xt⟩)] from by rw [← HXS.out]; simp [strV]]
                rw [HST.out, HSW.out, HPX2.out, if_neg hkd]
                exact hown
        · have hkn : k = n := by omega
          subst hkn
          go_wp2_with fail
          go_ret
          rw [HDEF.out, HBS.out]
          refine ⟨⟨_, rfl, ?_⟩, HB.out.trans (HBr.out.mono (Nat.le_of_lt hlt))⟩
          have := HO.out.mono (Nat.le_of_lt hlt)
          rw [← HXS.out, ← HLC.out, List.take_length] at this
          have e : (([ps ++ ms, ln, r1 ++ r2] : List ByteArray) ++ chain.map (stepS s)).length = 3 + chain.length := by simp; omega
          rw [e]
          exact this
  · have hm1 : mk = 1 := by rw [HMK.out, if_neg (fun h => hli0 h.1)]
    subst hm1
    go_wp2_with fail
    refine wp_region_HO (fun W' => W'.cell? ⟨B, 0, none⟩ = some (.int .i64 code) ∧ W'.cell? ⟨B, 1, none⟩ = some (.int .i64 at_) ∧ W'.cell? ⟨B, 2, none⟩ = some (.int .i64 fin) ∧ W'.cell? ⟨B, 3, none⟩ = some (.string text) ∧ W'.cell? ⟨B, 4, none⟩ = some (.slice A n c)) [] [(0, true), (1, true), (2, true), (4, true), (7, true), (8, true), (9, true), (10, true), (12, true), (3, false), (5, false), (6, true), (11, false), (13, false), (14, true), (15, false), (16, true)] (by kernel_rfl) (by kernel_rfl) rfl (by kernel_rfl) ?_
    have hS0 := HKS.out _ HB2.out.drew
    first | (refine wpHO_off rfl (by rfl) hS0 ?_) | (refine wpHO_soft rfl (by rfl) hS0 (by intro w1 hs1; obtain ⟨q0, q1, q2, q3, q4⟩ := hs1; go_simp; rfl) ?_)
    simp only [Act.put, List.setIfInBounds_toArray, List.set_cons_zero, List.set_cons_succ]
    first | (refine wpHO_off rfl (by rfl) hS0 ?_) | (refine wpHO_soft rfl (by rfl) hS0 (by intro w1 hs1; obtain ⟨q0, q1, q2, q3, q4⟩ := hs1; go_simp; rfl) ?_)
    simp only [Act.put, List.setIfInBounds_toArray, List.set_cons_zero, List.set_cons_succ]
    first | (refine wpHO_off rfl (by rfl) hS0 ?_) | (refine wpHO_soft rfl (by rfl) hS0 (by intro w1 hs1; obtain ⟨q0, q1, q2, q3, q4⟩ := hs1; go_simp; rfl) ?_)
    simp only [Act.put, List.setIfInBounds_toArray, List.set_cons_zero, List.set_cons_succ]
    first | (refine wpHO_off rfl (by rfl) hS0 ?_) | (refine wpHO_soft rfl (by rfl) hS0 (by intro w1 hs1; obtain ⟨q0, q1, q2, q3, q4⟩ := hs1; go_simp; rfl) ?_)
    simp only [Act.put, List.setIfInBounds_toArray, List.set_cons_zero, List.set_cons_succ]
    first | (refine wpHO_off rfl (by rfl) hS0 ?_) | (refine wpHO_soft rfl (by rfl) hS0 (by intro w1 hs1; obtain ⟨q0, q1, q2, q3, q4⟩ := hs1; go_simp; rfl) ?_)
    simp only [Act.put, List.setIfInBounds_toArray, List.set_cons_zero, List.set_cons_succ]
    first | (refine wpHO_off rfl (by rfl) hS0 ?_) | (refine wpHO_soft rfl (by rfl) hS0 (by intro w1 hs1; obtain ⟨q0, q1, q2, q3, q4⟩ := hs1; go_simp; rfl) ?_)
    simp only [Act.put, List.setIfInBounds_toArray, List.set_cons_zero, List.set_cons_succ]
    first | (refine wpHO_off rfl (by rfl) hS0 ?_) | (refine wpHO_soft rfl (by rfl) hS0 (by intro w1 hs1; obtain ⟨q0, q1, q2, q3, q4⟩ := hs1; go_simp; rfl) ?_)
    simp only [Act.put, List.setIfInBounds_toArray, List.set_cons_zero, List.set_cons_succ]
    first | (refine wpHO_off rfl (by rfl) hS0 ?_) | (refine wpHO_soft rfl (by rfl) hS0 (by intro w1 hs1; obtain ⟨q0, q1, q2, q3, q4⟩ := hs1; go_simp; rfl) ?_)
    simp only [Act.put, List.setIfInBounds_toArray, List.set_cons_zero, List.set_cons_succ]
    first | (refine wpHO_off rfl (by rfl) hS0 ?_) | (refine wpHO_soft rfl (by rfl) hS0 (by intro w1 hs1; obtain ⟨q0, q1, q2, q3, q4⟩ := hs1; go_simp; rfl) ?_)
    simp only [Act.put, List.setIfInBounds_toArray, List.set_cons_zero, List.set_cons_succ]
    refine wpHO_call rfl (by rfl) (by go_simp) ((HPS.out _ (HT.out.below HB2.out.drew)).mono ?_)
    rintro e w3 ⟨rfl, hb3⟩
    have HB3 := Lib.hid (HB2.out.drew.trans (hb3.mono HB2.out.drew.size))
    have hS3 := HKS.out _ HB3.out
    clear hb3 hS0
    refine ⟨_, rfl, fun _ => hS3, ?_⟩
    simp only [Act.put, List.setIfInBounds_toArray, List.set_cons_zero, List.set_cons_succ]
    refine wpHO_call rfl (by rfl) (by go_simp) ((HMSG.out _ (HT.out.below HB3.out)).mono ?_)
    rintro e w4 ⟨rfl, hb4⟩
    have HB4 := Lib.hid (HB3.out.trans (hb4.mono HB3.out.size))
    have hS4 := HKS.out _ HB4.out
    clear hb4 hS3
    refine ⟨_, rfl, fun _ => hS4, ?_⟩
    simp only [Act.put, List.setIfInBounds_toArray, List.set_cons_zero, List.set_cons_succ]
    first | (refine wpHO_off rfl (by rfl) hS4 ?_) | (refine wpHO_soft rfl (by rfl) hS4 (by intro w1 hs1; obtain ⟨q0, q1, q2, q3, q4⟩ := hs1; go_simp; rfl) ?_)
    simp only [Act.put, List.setIfInBounds_toArray, List.set_cons_zero, List.set_cons_succ]
    refine wpHO_call rfl (by rfl) (by first | (go_simp; done) | (go_simp; exact HK1.out)) ((HR1.out _).mono ?_)
    rintro e w5 ⟨rfl, hb5⟩
    have HB5 := Lib.hid (HB4.out.trans (hb5.mono HB4.out.size))
    have hS5 := HKS.out _ HB5.out
    clear hb5 hS4
    refine ⟨_, rfl, fun _ => hS5, ?_⟩
    simp only [Act.put, List.setIfInBounds_toArray, List.set_cons_zero, List.set_cons_succ]
    refine wpHO_call rfl (by rfl) (by go_simp) ((HR2.out _).mono ?_)
    rintro e w6 ⟨rfl, hb6⟩
    have HB6 := Lib.hid (HB5.out.trans (hb6.mono HB5.out.size))
    have hS6 := HKS.out _ HB6.out
    clear hb6 hS5
    refine ⟨_, rfl, fun _ => hS6, ?_⟩
    simp only [Act.put, List.setIfInBounds_toArray, List.set_cons_zero, List.set_cons_succ]
    first | (refine wpHO_off rfl (by rfl) hS6 ?_) | (refine wpHO_soft rfl (by rfl) hS6 (by intro w1 hs1; obtain ⟨q0, q1, q2, q3, q4⟩ := hs1; go_simp; rfl) ?_)
    simp only [Act.put, List.setIfInBounds_toArray, List.set_cons_zero, List.set_cons_succ]
    obtain ⟨w7, hw7⟩ : ∃ w7, w6.alloc (.cells #[.string (ps ++ ms), .string ln, .string (r1 ++ r2)] 9) = w7 := ⟨_, rfl⟩
    have hb7 : Below w6.heap.size w6 w7 := by rw [← hw7]; exact below_alloc _ _
    have HB7 := Lib.hid (HB6.out.trans (hb7.mono HB6.out.size))
    have hS7 := HKS.out _ HB7.out
    have HO7 : Hid (OwnS w7 W.heap.size 9 1 (.slice (some ⟨w6.heap.size, 0, none⟩) 3 3) 3 (strV [ps ++ ms, ln, r1 ++ r2])) := Lib.hid (OwnS.block (cur := #[.string (ps ++ ms), .string ln, .string (r1 ++ r2)]) HB6.out.size (by rw [← hw7]; exact Blk.new w6 _ _) (by simp only [maxLen]; omega) rfl)
    clear hb7 hS6
    refine wpHO_run (v := .slice (some ⟨w6.heap.size, 0, none⟩) 3 3) (w' := w7) rfl (by rfl) (by first | (go_simp; done) | (go_simp; exact hw7)) (fun _ => hS7) ?_
    clear hw7
    simp only [Act.put, List.setIfInBounds_toArray, List.set_cons_zero, List.set_cons_succ]
    first | (refine wpHO_off rfl (by rfl) hS7 ?_) | (refine wpHO_soft rfl (by rfl) hS7 (by intro w1 hs1; obtain ⟨q0, q1, q2, q3, q4⟩ := hs1; go_simp; rfl) ?_)
    simp only [Act.put, List.setIfInBounds_toArray, List.set_cons_zero, List.set_cons_succ]
    refine wpHO_nil ?_
    obtain ⟨q0, q1, q2, q3, q4⟩ := hS7
    clear q0 q1 q2 q3
    go_wp2_with fail
    clear q4
    obtain ⟨W7, hW7⟩ : ∃ W7 : World, W7 = w7 := ⟨_, rfl⟩
    go_loopg [9, 69] n (fun gk s9 s69 wr => ∃ k : Nat, k + gk = n ∧ s69 = .int .i64 k ∧ Below W.heap.size W wr ∧ OwnS wr W.heap.size 9 1 s9 (3 + k) (strV ([ps ++ ms, ln, r1 ++ r2] ++ (chain.take k).map (stepS s))))
    case atStart => exact ⟨0, by omega, rfl, HB7.out, by simpa using HO7.out⟩
    case round =>
      obtain ⟨k, hk, rfl, hB, ho⟩ := hrel
      have hk' : k ≤ n := by omega
      have HK := Lib.hid hk
      have HBr := Lib.hid hB
      have hbs := hB.size
      obtain ⟨xs, hxs⟩ : ∃ xs, strV ([ps ++ ms, ln, r1 ++ r2] ++ (chain.take k).map (stepS s)) = xs := ⟨_, rfl⟩
      rw [hxs] at ho
      have HXS := Lib.hid hxs
      have HO := Lib.hid ho
      clear hk ho hxs
      by_cases hlt9 : k < n
      · have hki : (k : Int) < (n : Int) := by omega
        have e1 : chain[k]? = some (chain[k]'(by rw [HLC.out]; exact hlt9)) := List.getElem?_eq_getElem _
        generalize chain[k]'(by rw [HLC.out]; exact hlt9) = x at e1
        have hxt9 := HXT.out x (List.mem_of_getElem? e1)
        have hstep : stepS s x = ⟨#[45, 32]⟩ ++ posS s x.at_ ++ stepW x := rfl
        have hpx := posS_size s x.at_ (by omega)
        have HPC := Lib.hid (HPX.out x.at_)
        have HSW : Hid (stepW x = if x.kind = 0 then ⟨#[116, 104, 105, 115, 32, 105, 115, 32]⟩ ++ x.text else ⟨#[116, 104, 101, 115, 101, 32, 104, 97, 118, 101, 32, 116, 104, 101, 32, 115, 97, 109, 101, 32, 116, 121, 112, 101]⟩) := Lib.hid rfl
        obtain ⟨b1, o1, hA1, hb1, hc1⟩ := (HCH.out.below (HB.out.trans (hB.mono (Nat.le_of_lt hlt))) (Nat.le_refl _)) k _ e1
        subst hA1
        have E1 := Lib.hid e1
        have HST := Lib.hid hstep
        obtain ⟨kd, xa, xf, xt⟩ := x
        simp only at hxt9 hpx HPC HSW
        obtain ⟨px, hpx2⟩ : ∃ px, posS s xa = px := ⟨_, rfl⟩
        rw [hpx2] at hpx HPC
        have HPX2 := Lib.hid hpx2
        clear hstep hpx2
        have y0 : wr.cell? ⟨b1, o1 + k * 4, none⟩ = some (.int .i64 kd) := by simpa using hc1 0 _ rfl
        have y1 : wr.cell? ⟨b1, o1 + k * 4 + 1, none⟩ = some (.int .i64 xa) := hc1 1 _ rfl
        have y2 : wr.cell? ⟨b1, o1 + k * 4 + 2, none⟩ = some (.int .i64 xf) := hc1 2 _ rfl
        have y3 : wr.cell? ⟨b1, o1 + k * 4 + 3, none⟩ = some (.string xt) := hc1 3 _ rfl
        obtain ⟨W3, hW3⟩ : ∃ W3, wr.alloc (.cells #[.int .i64 kd, .int .i64 xa, .int .i64 xf, .string xt] 83) = W3 := ⟨_, rfl⟩
        have h3b : Below wr.heap.size wr W3 := by rw [← hW3]; exact below_alloc _ _
        have h3x : Blk W3 wr.heap.size 83 #[.int .i64 kd, .int .i64 xa, .int .i64 xf, .string xt] := by rw [← hW3]; exact Blk.new wr _ _
        have z0 : W3.cell? ⟨wr.heap.size, 0, none⟩ = some (.int .i64 kd) := h3x.cell 0
        have z1 : W3.cell? ⟨wr.heap.size, 1, none⟩ = some (.int .i64 xa) := h3x.cell 1
        have z3 : W3.cell? ⟨wr.heap.size, 3, none⟩ = some (.string xt) := h3x.cell 3
        have HB3r := Lib.hid (HBr.out.trans (h3b.mono HBr.out.size))
        have HO3r := Lib.hid (HO.out.below h3b (fun g hg => (HO.out.lt g hg).2))
        clear h3b h3x hc1 e1 hB
        by_cases hkd : kd = 0
        · subst hkd
          have hcat0 : ¬ (9223372036854775807 < 8 + xt.size) := by omega
          go_wp2_with (rw [hW3])
          refine (HPC.out _ (HT.out.below HB3r.out)).mono ?_
          rintro e w4r ⟨rfl, hb4r⟩
          have hs4r := Nat.le_trans HB3r.out.size hb4r.size
          have HB4r := Lib.hid (HB3r.out.trans (hb4r.mono HB3r.out.size))
          have HO4r := Lib.hid (HO3r.out.below hb4r (fun g hg => (HO3r.out.lt g hg).2))
          clear hb4r
          have hcat1 : ¬ (9223372036854775807 < 2 + px.size) := by omega
          have hcat2 : ¬ (9223372036854775807 < 2 + px.size + (8 + xt.size)) := by omega
          go_wp2_with (at_builtin; go_must (refine wpList_append_S _ rfl (.tmp 79) (.tmp 87) _ rfl W.heap.size 9 i0 _ 1 16 Tryz.underlying24 hi0 hz0 hz1 hz2 rfl u9 (3 + k) xs rfl (HO4r.out.alloc _) ⟨w4r.heap.size, 0, none⟩ 1 1 [.string (⟨#[45, 32]⟩ ++ px ++ (⟨#[116, 104, 105, 115, 32, 105, 115, 32]⟩ ++ xt))] rfl rfl (news_one _ _ _ (by go_simp)) (by simp [Value.oneCell']) (by simp only [maxLen]; omega) (by omega) (by simp; omega) ?_); intro v' w4 hown hgrow hat)
          go_roundg (gk - 1)
          case measure => have := HK.out; omega
          case rel =>
            refine ⟨k + 1, by have := HK.out; omega, by go_num, ?_, ?_⟩
            · exact Below.grown (HB4r.out.alloc HB4r.out.size _) hgrow (by have := HB4r.out.size; simp; omega) (fun g hg => (HO4r.out.lt g hg).1)
            · rw [List.take_add_one, E1.out]
              rw [show strV ([ps ++ ms, ln, r1 ++ r2] ++ List.map (stepS s) (List.take k chain ++ Option.toList (some ⟨0, xa, xf, xt⟩))) = xs ++ [.string (stepS s ⟨0, xa, xf, xt⟩)] from by rw [← HXS.out]; simp [strV]]
              rw [HST.out, HSW.out, HPX2.out]
              exact hown
        · have hkd2 : (kd == 0) = false := by simp [hkd]
          go_wp2_with (rw [hW3])
          refine (HPC.out _ (HT.out.below HB3r.out)).mono ?_
          rintro e w4r ⟨rfl, hb4r⟩
          have hs4r := Nat.le_trans HB3r.out.size hb4r.size
          have HB4r := Lib.hid (HB3r.out.trans (hb4r.mono HB3r.out.size))
          have HO4r := Lib.hid (HO3r.out.below hb4r (fun g hg => (HO3r.out.lt g hg).2))
          clear hb4r
          have hcat1 : ¬ (9223372036854775807 < 2 + px.size) := by omega
          have hcat2 : ¬ (9223372036854775807 < 2 + px.size + (24)) := by omega
          go_wp2_with (at_builtin; go_must (refine wpList_append_S _ rfl (.tmp 79) (.tmp 87) _ rfl W.heap.size 9 i0 _ 1 16 Tryz.underlying24 hi0 hz0 hz1 hz2 rfl u9 (3 + k) xs rfl (HO4r.out.alloc _) ⟨w4r.heap.size, 0, none⟩ 1 1 [.string (⟨#[45, 32]⟩ ++ px ++ (⟨#[116, 104, 101, 115, 101, 32, 104, 97, 118, 101, 32, 116, 104, 101, 32, 115, 97, 109, 101, 32, 116, 121, 112, 101]⟩))] rfl rfl (news_one _ _ _ (by go_simp)) (by simp [Value.oneCell']) (by simp only [maxLen]; omega) (by omega) (by simp; omega) ?_); intro v' w4 hown hgrow hat)
          go_roundg (gk - 1)
          case measure => have := HK.out; omega
          case rel =>
            refine ⟨k + 1, by have := HK.out; omega, by go_num, ?_, ?_⟩
            · exact Below.grown (HB4r.out.alloc HB4r.out.size _) hgrow (by have := HB4r.out.size; simp; omega) (fun g hg => (HO4r.out.lt g hg).1)
            · rw [List.take_add_one, E1.out]
              rw [show strV ([ps ++ ms, ln, r1 ++ r2] ++ List.map (stepS s) (List.take k chain ++ Option.toList (some ⟨kd, xa, xf, xt⟩))) = xs ++ [.string (stepS s ⟨kd, xa, xf, xt⟩)] from by rw [← HXS.out]; simp [strV]]
              rw [HST.out, HSW.out, HPX2.out, if_neg hkd]
              exact hown
      · have hkn : k = n := by omega
        subst hkn
        go_wp2_with fail
        go_ret
        rw [HDEF.out, HBS.out]
        refine ⟨⟨_, rfl, ?_⟩, HB.out.trans (HBr.out.mono (Nat.le_of_lt hlt))⟩
        have := HO.out.mono (Nat.le_of_lt hlt)
        rw [← HXS.out, ← HLC.out, List.take_length] at this
        have e : (([ps ++ ms, ln, r1 ++ r2] : List ByteArray) ++ chain.map (stepS s)).length = 3 + chain.length := by simp; omega
        rw [e]
        exact this
end Go.Proofs.YtinpopjnnljkhaaGreatDoor
