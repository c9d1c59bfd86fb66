/- The reference's distances and Connected, walked. -/
import Derived.Test.YtpdimehoepfgaaaRd
import Derived.Test.YtpdimehoepfgaaaLaw
namespace Go.Proofs.Ytpdimehoepfgaaa
open Go.RowKit

/-- What holds at the head of the outer loop. -/
def OutR (l : List Con) (n s d : Nat) (chg : Bool) (out : List Int) : Prop :=
  match chg with
  | true => HInv l n s (d : Int) out ∧ ∃ v, v < n ∧ dd l n s v = (d : Int)
  | false => out = ddL l n s

theorem half_yes {d : Int} {u v : Nat} {st : List Int × Bool} (h1 : st.1.getD u 0 = d) (h2 : st.1.getD v 0 < 0) : half d u v st = (st.1.set v (d + 1), true) := if_pos ⟨h1, h2⟩
theorem half_no1 {d : Int} {u v : Nat} {st : List Int × Bool} (h1 : st.1.getD u 0 ≠ d) : half d u v st = st := if_neg (fun h => h1 h.1)
theorem half_no2 {d : Int} {u v : Nat} {st : List Int × Bool} (h1 : 0 ≤ st.1.getD v 0) : half d u v st = st := if_neg (fun h => by omega)

set_option maxHeartbeats 4000000 in
set_option maxRecDepth 100000 in
theorem rdist_any (n s : Nat) (AL : Option Addr) (nl cL : Nat) (l : List Con) (w : World) (hL : RowAt 8 conCells w w.heap.size AL l) (hl : l.length = nl) (hok : Ok l n) (hs : s < n) (hn : n ≤ 4096) (hnl : nl ≤ 200) :
    Calls Try.prog 32 #[.int .i64 (n : Int), .slice AL nl cL, .int .i64 (s : Int)] w fun e w' => ∃ g, e = .returned (.slice (some ⟨g, 0, none⟩) n n) ∧ w.heap.size ≤ g ∧ IntsBlk w' g (ddL l n s) ∧ Below w.heap.size w w' := by
  have hmk := run_make_ints n (by omega)
  have HL := Lib.hid hL
  have HLl := Lib.hid hl
  have HOK := Lib.hid hok
  have hdt : ∀ v, dd l n s v ≤ n + 1 := fun v => dd_top hok hs v
  have HDT := Lib.hid hdt
  have hsn : (s : Int) < (n : Int) := by omega
  clear hL hl hok hdt
  go_enter Try.func32, Try.ntmps32
  go_wp2_with fail
  clear hmk
  go_loopg [8] n (fun gk s8 wr => ∃ k : Nat, k + gk = n ∧ s8 = .int .i64 k ∧ IntsBlk wr w.heap.size (List.replicate k (-1) ++ List.replicate (n - k) 0) ∧ Below w.heap.size w wr)
  case atStart => exact ⟨0, by omega, rfl, by simpa using IntsBlk.new w (List.replicate n 0), by (repeat (first | exact Below.refl _ _ | assumption | refine Below.trans ?_ (Below.mono (by assumption) (by first | omega | (simp; done) | (simp; omega))) | refine Below.alloc ?_ (by first | omega | (simp; done) | (simp; omega)) _ | refine Below.setCell ?_ (by first | omega | (simp; done) | (simp; omega)) _ | refine Below.drew ?_ | refine below_drewN ?_ _))⟩
  case round =>
    obtain ⟨k, hk, rfl, hI, hB⟩ := hrel
    have hk' : k ≤ n := by omega
    have HK := Lib.hid hk
    have hBs := hB.size
    clear hk
    by_cases hlt : k < n
    · have hc := hI.cell (i := k) (by simp; omega)
      have hf := hI.frozen k
      have hki : (k : Int) < (n : Int) := by omega
      have HI := Lib.hid hI
      clear hI
      generalize (List.replicate k (-1 : Int) ++ List.replicate (n - k) 0).getD k 0 = x at hc
      go_wp2_with fail
      go_roundg (gk - 1)
      case measure => have := HK.out; omega
      case rel =>
        refine ⟨k + 1, by have := HK.out; omega, by go_num, ?_, by (repeat (first | exact Below.refl _ _ | assumption | refine Below.trans ?_ (Below.mono (by assumption) (by first | omega | (simp; done) | (simp; omega))) | refine Below.alloc ?_ (by first | omega | (simp; done) | (simp; omega)) _ | refine Below.setCell ?_ (by first | omega | (simp; done) | (simp; omega)) _ | refine Below.drew ?_ | refine below_drewN ?_ _))⟩
        rw [← fill_step n k (-1) 0 hlt]
        exact HI.out.set k (-1)
    · have hkn : k = n := by omega
      have hI2 : IntsBlk wr w.heap.size (List.replicate n (-1)) := by
        have h := hI
        rw [hkn, Nat.sub_self, List.replicate_zero, List.append_nil] at h
        exact h
      have hc := hI2.cell (i := s) (by simp; omega)
      have hf := hI2.frozen s
      have HI2 := Lib.hid hI2
      clear hI hI2 hkn
      generalize (List.replicate n (-1 : Int)).getD s 0 = x at hc
      obtain ⟨wo, rfl⟩ : ∃ wo : World, wo = wr := ⟨_, rfl⟩
      obtain ⟨go, rfl⟩ : ∃ go : Nat, go = gk := ⟨_, rfl⟩
      go_wp2_with fail
      go_loopg [9, 10] (n + 3) (fun gk s9 s10 wr => ∃ (d : Nat) (chg : Bool) (out : List Int), d + gk = n + 3 ∧ d ≤ n + 2 ∧ s9 = .bool chg ∧ s10 = .int .i64 (d : Int) ∧ IntsBlk wr w.heap.size out ∧ OutR l n s d chg out ∧ Below w.heap.size w wr)
      case atStart => exact ⟨0, true, (List.replicate n (-1)).set s 0, by omega, by omega, rfl, rfl, HI2.out.set s 0, ⟨hinv_start HOK.out hs, s, hs, dd_self HOK.out hs⟩, by (repeat (first | exact Below.refl _ _ | assumption | refine Below.trans ?_ (Below.mono (by assumption) (by first | omega | (simp; done) | (simp; omega))) | refine Below.alloc ?_ (by first | omega | (simp; done) | (simp; omega)) _ | refine Below.setCell ?_ (by first | omega | (simp; done) | (simp; omega)) _ | refine Below.drew ?_ | refine below_drewN ?_ _))⟩
      case round =>
        obtain ⟨d, chg, out, hd, hd2, rfl, rfl, hI, hR, hB5⟩ := hrel
        have HD := Lib.hid hd
        have hB5s := hB5.size
        clear hd
        cases chg
        · have hR' : out = ddL l n s := hR
          subst hR'
          have HI := Lib.hid hI
          clear hI hR
          go_wp2_with fail
          go_ret
          exact ⟨_, rfl, Nat.le_refl _, HI.out, hB5⟩
        · obtain ⟨hH, hex⟩ := hR
          have hdn : d ≤ n + 1 := by
            obtain ⟨v, _, hv⟩ := hex
            have := HDT.out v
            omega
          have HR0 := Lib.hid (hH.start (by omega))
          have HI := Lib.hid hI
          clear hH hex hI
          obtain ⟨wp, rfl⟩ : ∃ wp : World, wp = wr := ⟨_, rfl⟩
          obtain ⟨gp, rfl⟩ : ∃ gp : Nat, gp = gk := ⟨_, rfl⟩
          go_wp2_with fail
          go_loopg [9, 11] nl (fun gk s9 s11 wr => ∃ (k : Nat) (st : List Int × Bool), k + gk = nl ∧ s11 = .int .i64 k ∧ s9 = .bool st.2 ∧ IntsBlk wr w.heap.size st.1 ∧ RInv l n s (d : Int) k st ∧ Below w.heap.size w wr)
          case atStart => exact ⟨0, (out, false), by omega, rfl, rfl, HI.out, HR0.out, hB5⟩
          case round =>
            obtain ⟨k, ⟨o, cf⟩, hk, rfl, rfl, hI, hR, hB6⟩ := hrel
            have hk' : k ≤ nl := by omega
            have HK := Lib.hid hk
            have HI6 := Lib.hid hI
            have HR := Lib.hid hR
            have hB6s := hB6.size
            clear hk
            by_cases hlt6 : k < nl
            · have hkl : k < l.length := by rw [HLl.out]; exact hlt6
              have hlk : l[k]? = some l[k] := List.getElem?_eq_getElem hkl
              obtain ⟨lb, loff, hA, hlb, hlc⟩ := (HL.out.below hB6 (Nat.le_refl _)) k _ hlk
              subst hA
              have hstep := hR.step HOK.out hs (by omega) hlk
              have hmem := List.mem_of_getElem? hlk
              have hki : (k : Int) < (nl : Int) := by omega
              have hlbs : lb < wr.heap.size := by omega
              clear hlk
              generalize l[k] = c at *
              have hc0 : wr.cell? ⟨lb, loff + k * 8, none⟩ = some (.int .i64 c.kind) := hlc 0 _ rfl
              by_cases hk1 : c.kind = 1
              · have hbd := ok_equal HOK.out hmem hk1
                obtain ⟨u, hu⟩ : ∃ u, c.a.toNat = u := ⟨_, rfl⟩
                obtain ⟨v, hv⟩ : ∃ v, c.b.toNat = v := ⟨_, rfl⟩
                have hua : c.a = (u : Int) := by omega
                have hvb : c.b = (v : Int) := by omega
                have hc1 : wr.cell? ⟨lb, loff + k * 8 + 1, none⟩ = some (.int .i64 (u : Int)) := by rw [← hua]; exact hlc 1 _ rfl
                have hc2 : wr.cell? ⟨lb, loff + k * 8 + 2, none⟩ = some (.int .i64 (v : Int)) := by rw [← hvb]; exact hlc 2 _ rfl
                have hun : u < n := by omega
                have hvn : v < n := by omega
                have huni : (u : Int) < (n : Int) := by omega
                have hvni : (v : Int) < (n : Int) := by omega
                unfold rstep at hstep
                rw [if_pos hk1, hu, hv] at hstep
                rw [hk1] at hc0
                have hou := hI.cell (i := u) (by rw [hR.len]; exact hun)
                have hov := hI.cell (i := v) (by rw [hR.len]; exact hvn)
                have hfu := hI.frozen u
                have hfv := hI.frozen v
                obtain ⟨du, hdu⟩ : ∃ x, o.getD u 0 = x := ⟨_, rfl⟩
                obtain ⟨dv, hdv⟩ : ∃ x, o.getD v 0 = x := ⟨_, rfl⟩
                simp only at hou hov
                rw [hdu] at hou
                rw [hdv] at hov
                have HST := Lib.hid hstep
                have HDU := Lib.hid hdu
                have HDV := Lib.hid hdv
                have hlen := hR.len
                have HLEN := Lib.hid hlen
                clear hstep hlc hu hv hua hvb hk1 hbd hmem hdu hdv hI hR hlen
                by_cases hA1 : du = (d : Int)
                · subst hA1
                  by_cases hB1 : dv < 0
                  · -- the first store
                    have hne : ¬ (u = v) := by
                      rintro rfl
                      have h1 := HDU.out
                      have h2 := HDV.out
                      omega
                    have hne2 : ¬ (v = u) := fun e => hne e.symm
                    have e1 := half_yes (u := u) (v := v) (st := (o, cf)) HDU.out (by rw [HDV.out]; exact hB1)
                    have e2 : half (d : Int) v u (o.set v ((d : Int) + 1), true) = (o.set v ((d : Int) + 1), true) := half_no1 (by
                      simp only
                      rw [getD_set o v v _ _ (by have := HLEN.out; simp only at this; omega), if_pos rfl]
                      omega)
                    have hst := HST.out
                    rw [e1, e2] at hst
                    have HST2 := Lib.hid hst
                    have hdd : (((d : Int) + 1) == (d : Int)) = false := by simp; omega
                    clear hst e1 e2 HST
                    go_wp2_with fail
                    go_roundg (gk - 1)
                    case measure => have := HK.out; omega
                    case rel => exact ⟨k + 1, _, by have := HK.out; omega, by go_num, rfl, HI6.out.set v _, HST2.out, by (repeat (first | exact Below.refl _ _ | assumption | refine Below.trans ?_ (Below.mono (by assumption) (by first | omega | (simp; done) | (simp; omega))) | refine Below.alloc ?_ (by first | omega | (simp; done) | (simp; omega)) _ | refine Below.setCell ?_ (by first | omega | (simp; done) | (simp; omega)) _ | refine Below.drew ?_ | refine below_drewN ?_ _))⟩
                  · -- the second vertex is known
                    have e1 := half_no2 (d := (d : Int)) (u := u) (v := v) (st := (o, cf)) (by rw [HDV.out]; omega)
                    have e2 := half_no2 (d := (d : Int)) (u := v) (v := u) (st := (o, cf)) (by rw [HDU.out]; omega)
                    have hst := HST.out
                    rw [e1, e2] at hst
                    have HST2 := Lib.hid hst
                    clear hst e1 e2 HST
                    by_cases hC1 : dv = (d : Int)
                    · subst hC1
                      go_wp2_with fail
                      go_roundg (gk - 1)
                      case measure => have := HK.out; omega
                      case rel => exact ⟨k + 1, _, by have := HK.out; omega, by go_num, rfl, HI6.out, HST2.out, hB6⟩
                    · have hc1b : (dv == (d : Int)) = false := by simpa using hC1
                      clear hC1
                      go_wp2_with fail
                      go_roundg (gk - 1)
                      case measure => have := HK.out; omega
                      case rel => exact ⟨k + 1, _, by have := HK.out; omega, by go_num, rfl, HI6.out, HST2.out, hB6⟩
                · have ha1b : (du == (d : Int)) = false := by simpa using hA1
                  have e1 := half_no1 (d := (d : Int)) (u := u) (v := v) (st := (o, cf)) (by rw [HDU.out]; exact hA1)
                  have hst := HST.out
                  rw [e1] at hst
                  have HSTa := Lib.hid hst
                  clear hst e1 HST hA1
                  by_cases hC1 : dv = (d : Int)
                  · subst hC1
                    by_cases hB1 : du < 0
                    · have e2 := half_yes (u := v) (v := u) (st := (o, cf)) HDV.out (by rw [HDU.out]; exact hB1)
                      have hst := HSTa.out
                      rw [e2] at hst
                      have HST2 := Lib.hid hst
                      clear hst e2 HSTa
                      go_wp2_with fail
                      go_roundg (gk - 1)
                      case measure => have := HK.out; omega
                      case rel => exact ⟨k + 1, _, by have := HK.out; omega, by go_num, rfl, HI6.out.set u _, HST2.out, by (repeat (first | exact Below.refl _ _ | assumption | refine Below.trans ?_ (Below.mono (by assumption) (by first | omega | (simp; done) | (simp; omega))) | refine Below.alloc ?_ (by first | omega | (simp; done) | (simp; omega)) _ | refine Below.setCell ?_ (by first | omega | (simp; done) | (simp; omega)) _ | refine Below.drew ?_ | refine below_drewN ?_ _))⟩
                    · have e2 := half_no2 (d := (d : Int)) (u := v) (v := u) (st := (o, cf)) (by rw [HDU.out]; omega)
                      have hst := HSTa.out
                      rw [e2] at hst
                      have HST2 := Lib.hid hst
                      clear hst e2 HSTa
                      go_wp2_with fail
                      go_roundg (gk - 1)
                      case measure => have := HK.out; omega
                      case rel => exact ⟨k + 1, _, by have := HK.out; omega, by go_num, rfl, HI6.out, HST2.out, hB6⟩
                  · have e2 := half_no1 (d := (d : Int)) (u := v) (v := u) (st := (o, cf)) (by rw [HDV.out]; exact hC1)
                    have hst := HSTa.out
                    rw [e2] at hst
                    have HST2 := Lib.hid hst
                    have hc1b : (dv == (d : Int)) = false := by simpa using hC1
                    clear hst e2 HSTa hC1
                    go_wp2_with fail
                    go_roundg (gk - 1)
                    case measure => have := HK.out; omega
                    case rel => exact ⟨k + 1, _, by have := HK.out; omega, by go_num, rfl, HI6.out, HST2.out, hB6⟩
              · have hkb : (c.kind != 1) = true := by simpa using hk1
                unfold rstep at hstep
                rw [if_neg hk1] at hstep
                have HST := Lib.hid hstep
                clear hstep hlc hmem hk1 hI hR
                go_wp2_with fail
                go_roundg (gk - 1)
                case measure => have := HK.out; omega
                case rel => exact ⟨k + 1, _, by have := HK.out; omega, by go_num, rfl, HI6.out, HST.out, hB6⟩
            · have hkn : k = nl := by omega
              have hR2 := hR
              rw [hkn, ← HLl.out] at hR2
              have hend := RInv.round HOK.out hs (by omega) hR2
              simp only at hend
              have HEND := Lib.hid hend
              clear hend hR2 hR hI hkn
              go_wp2_with fail
              go_roundg (gp - 1)
              case measure => have := HD.out; omega
              case rel =>
                refine ⟨d + 1, cf, o, by have := HD.out; omega, by omega, rfl, by go_num, HI6.out, ?_, hB6⟩
                have h := HEND.out
                cases cf with
                | true =>
                  have := h.1 rfl
                  exact ⟨by simpa using this.1, by simpa using this.2⟩
                | false => exact h.2 rfl

def connL (l : List Con) (n s : Nat) : List Bool := (List.range n).map fun v => decide (0 ≤ dd l n s v)

theorem connL_set (l : List Con) (n s k : Nat) (hk : k < n) : ((List.range k).map (fun v => decide (0 ≤ dd l n s v)) ++ List.replicate (n - k) false).set k (decide (0 ≤ dd l n s k)) = (List.range (k + 1)).map (fun v => decide (0 ≤ dd l n s v)) ++ List.replicate (n - (k + 1)) false := by
  have e : n - k = (n - (k + 1)) + 1 := by omega
  rw [e, List.replicate_succ, List.set_append]
  simp [List.range_succ]

set_option maxHeartbeats 1000000 in
theorem Connected_any (n s : Nat) (AL : Option Addr) (nl cL : Nat) (l : List Con) (w : World) (hL : RowAt 8 conCells w w.heap.size AL l) (hl : l.length = nl) (hok : Ok l n) (hs : s < n) (hn : n ≤ 4096) (hnl : nl ≤ 200) :
    Calls Try.prog 15 #[.int .i64 (n : Int), .slice AL nl cL, .int .i64 (s : Int)] w fun e w' => ∃ g, e = .returned (.slice (some ⟨g, 0, none⟩) n n) ∧ w.heap.size ≤ g ∧ BoolsBlk w' g (connL l n s) ∧ Below w.heap.size w w' := by
  have hmk := run_make_one 37 4 _ 1 Try.underlying37 bool_info rfl (by omega) n (by omega)
  have hdl : (ddL l n s).length = n := (dd_dist hok hs).len
  have hget : ∀ v, v < n → (ddL l n s).getD v 0 = dd l n s v := fun v _ => rfl
  have HL := Lib.hid hL
  have HLl := Lib.hid hl
  have HOK := Lib.hid hok
  have HDL := Lib.hid hdl
  have HGET := Lib.hid hget
  clear hL hl hok hdl hget
  go_enter Try.func15, Try.ntmps15
  go_wp2_with fail
  clear hmk
  generalize hW1 : w.alloc (.cells (Array.replicate n (.bool false)) 4) = W1
  have hb1 : Below w.heap.size w W1 := by rw [← hW1]; (repeat (first | exact Below.refl _ _ | assumption | refine Below.trans ?_ (Below.mono (by assumption) (by first | omega | (simp; done) | (simp; omega))) | refine Below.alloc ?_ (by first | omega | (simp; done) | (simp; omega)) _ | refine Below.setCell ?_ (by first | omega | (simp; done) | (simp; omega)) _ | refine Below.drew ?_ | refine below_drewN ?_ _))
  have hk1 : BoolsBlk W1 w.heap.size (List.replicate n false) := by
    rw [← hW1]
    have := Blk.new w 4 (Array.replicate n (.bool false))
    simpa [BoolsBlk] using this
  have HK1 := Lib.hid hk1
  have hs1 : w.heap.size < W1.heap.size := Blk.lt hk1
  clear hW1 hk1
  refine (rdist_any n s AL nl cL l W1 (HL.out.later hb1) HLl.out HOK.out hs hn hnl).mono ?_
  rintro e w2 ⟨g, rfl, hg, hI, hb2⟩
  have HI := Lib.hid hI
  have hgl : g < w2.heap.size := hI.lt
  have hB2 : Below w.heap.size w w2 := hb1.trans (hb2.mono hb1.size)
  have hk2 : BoolsBlk w2 w.heap.size (List.replicate n false) := Blk.below HK1.out hb2 hs1
  have HK2 := Lib.hid hk2
  clear hI hk2 HK1
  go_wp2_with fail
  go_loopg [9] n (fun gk s9 wr => ∃ k : Nat, k + gk = n ∧ s9 = .int .i64 k ∧ BoolsBlk wr w.heap.size ((List.range k).map (fun v => decide (0 ≤ dd l n s v)) ++ List.replicate (n - k) false) ∧ IntsBlk wr g (ddL l n s) ∧ Below w.heap.size w wr)
  case atStart => exact ⟨0, by omega, rfl, by simpa using HK2.out, HI.out, hB2⟩
  case round =>
    obtain ⟨k, hk, rfl, hbk, hIk, hB⟩ := hrel
    have hk' : k ≤ n := by omega
    have HK := Lib.hid hk
    have hBs := hB.size
    clear hk
    by_cases hlt : k < n
    · have hcb := hbk.cell (i := k) (by simp; omega)
      have hfb := Blk.frozen hbk k
      have hcd := hIk.cell (i := k) (by rw [HDL.out]; exact hlt)
      rw [HGET.out k hlt] at hcd
      have hki : (k : Int) < (n : Int) := by omega
      have hset := connL_set l n s k hlt
      have HSET := Lib.hid hset
      have HBK := Lib.hid hbk
      have HIK := Lib.hid hIk
      have hgne : g ≠ w.heap.size := by omega
      clear hbk hIk hset
      generalize ((List.range k).map (fun v => decide (0 ≤ dd l n s v)) ++ List.replicate (n - k) false).getD k false = bx at hcb
      obtain ⟨x, hx⟩ : ∃ x, dd l n s k = x := ⟨_, rfl⟩
      rw [hx] at hcd
      have HX := Lib.hid hx
      clear hx
      by_cases h0 : 0 ≤ x
      · have hd0 : decide (0 ≤ x) = true := by simpa using h0
        go_wp2_with fail
        go_roundg (gk - 1)
        case measure => have := HK.out; omega
        case rel =>
          refine ⟨k + 1, by have := HK.out; omega, by go_num, ?_, HIK.out.far hgne _, by (repeat (first | exact Below.refl _ _ | assumption | refine Below.trans ?_ (Below.mono (by assumption) (by first | omega | (simp; done) | (simp; omega))) | refine Below.alloc ?_ (by first | omega | (simp; done) | (simp; omega)) _ | refine Below.setCell ?_ (by first | omega | (simp; done) | (simp; omega)) _ | refine Below.drew ?_ | refine below_drewN ?_ _))⟩
          rw [← HSET.out, HX.out, decide_eq_true h0]
          exact HBK.out.set k true
      · have hd0 : decide (0 ≤ x) = false := by simpa using h0
        go_wp2_with fail
        go_roundg (gk - 1)
        case measure => have := HK.out; omega
        case rel =>
          refine ⟨k + 1, by have := HK.out; omega, by go_num, ?_, HIK.out.far hgne _, by (repeat (first | exact Below.refl _ _ | assumption | refine Below.trans ?_ (Below.mono (by assumption) (by first | omega | (simp; done) | (simp; omega))) | refine Below.alloc ?_ (by first | omega | (simp; done) | (simp; omega)) _ | refine Below.setCell ?_ (by first | omega | (simp; done) | (simp; omega)) _ | refine Below.drew ?_ | refine below_drewN ?_ _))⟩
          rw [← HSET.out, HX.out, decide_eq_false (by omega)]
          exact HBK.out.set k false
    · have hkn : k = n := by omega
      have hfin : BoolsBlk wr w.heap.size (connL l n s) := by
        have h := hbk
        rw [hkn, Nat.sub_self, List.replicate_zero, List.append_nil] at h
        exact h
      have HFIN := Lib.hid hfin
      clear hfin hbk hIk hkn
      go_wp2_with fail
      go_ret
      exact ⟨_, rfl, Nat.le_refl _, HFIN.out, hB⟩

end Go.Proofs.Ytpdimehoepfgaaa
