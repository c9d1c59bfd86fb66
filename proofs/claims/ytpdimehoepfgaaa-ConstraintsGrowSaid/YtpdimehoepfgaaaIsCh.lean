/- isChain says yes to a chain. -/
import Derived.Test.YtpdimehoepfgaaaValid
import Derived.Test.YtpdimehoepfgaaaPl5
import Derived.IntWalk
namespace Go.Proofs.Ytpdimehoepfgaaa
open Go.RowKit

theorem good_range {l : List Con} {ch : List Int} {i j : Nat} {c c' : Con} {es : List Int} (h : GoodChain l ch i j c c' es) : ∀ z ∈ ch, ∃ x : Nat, z = (x : Int) ∧ x < l.length := by
  rw [h.shape]
  intro z hz
  rcases List.mem_cons.1 hz with rfl | hz
  · exact ⟨i, rfl, (List.getElem?_eq_some_iff.1 h.first).1⟩
  · rcases List.mem_append.1 hz with hz | hz
    · obtain ⟨q, d, rfl, hd, _⟩ := path_range h.path z hz
      exact ⟨q, rfl, (List.getElem?_eq_some_iff.1 hd).1⟩
    · simp at hz
      subst hz
      exact ⟨j, rfl, (List.getElem?_eq_some_iff.1 h.last).1⟩

theorem run_slice_mid {P : Program} (w : World) (t e : TypeId) (i : TypeInfo) (ht : P.underlying t = some (.slice e)) (hi : P.info? e = some i) (a : Option Addr) (len cap lo hi_ : Nat) (h1 : lo ≤ hi_) (h2 : hi_ ≤ cap) :
    (Instr.slice t (.slice a len cap) (some (.int .i64 (lo : Int))) (some (.int .i64 (hi_ : Int))) none).run P w = .ok (.slice (if cap = lo then a else a.map (·.add (lo * i.size))) (hi_ - lo) (cap - lo)) w := by
  simp [Instr.slice, run_underlying ht, Instr.sliceBounds, Instr.sliceBound, asIntOf, sizeOf, typeInfo, hi]
  rw [if_pos h2, if_pos h1]

theorem blk_two (w : World) (a b : Array Value) (t : TypeId) : Blk ((w.alloc (.cells a t)).alloc (.cells b t)).drew w.heap.size t a ∧ Blk ((w.alloc (.cells a t)).alloc (.cells b t)).drew (w.heap.size + 1) t b := by
  refine ⟨((Blk.new w t a).alloc _).drew, ?_⟩
  have h := Blk.new (w.alloc (.cells a t)) t b
  rw [World.size_alloc] at h
  exact h.drew

theorem conBlk (w : World) (c : Con) : ∀ j u, (conCells c)[j]? = some u → (w.alloc (.cells (conCells c).toArray 36)).cell? ⟨w.heap.size, j, none⟩ = some u := fun j u h => by
  rw [Blk.cell (Blk.new w 36 _)]
  simpa using h

set_option maxHeartbeats 4000000 in
set_option maxRecDepth 100000 in
theorem isChain_any (AL : Option Addr) (nl cL : Nat) (l : List Con) (AC : Option Addr) (cC : Nat) (ch : List Int) (i j : Nat) (c c' : Con) (es : List Int) (w : World) (hL : RowAt 8 conCells w w.heap.size AL l) (hl : l.length = nl)
    (hC : RowAt 1 (fun z => [Value.int .i64 z]) w w.heap.size AC ch) (hcap : ch.length ≤ cC) (hg : GoodChain l ch i j c c' es) (hb2 : ch.length ≤ 1000000) :
    Calls Try.prog 14 #[.slice AL nl cL, .slice AC ch.length cC] w fun e w' => e = .returned (.bool true) ∧ Below w.heap.size w w' := by
  obtain ⟨i0, hi0, hz0, hz1, hz2⟩ := info_parts int_info
  obtain ⟨m, hm⟩ : ∃ m, es.length = m := ⟨_, rfl⟩
  have hlen : ch.length = m + 1 + 1 := by rw [hg.shape]; simp [hm]
  have hchj : ch[m + 1]? = some (j : Int) := by
    rw [hg.shape, List.getElem?_cons_succ, List.getElem?_append_right (by omega), hm]
    simp
  have hche : ∀ q, q < m → ch[q + 1]? = es[q]? := fun q hq => by
    rw [hg.shape, List.getElem?_cons_succ, List.getElem?_append_left (by omega)]
  obtain ⟨cb, coff, hA, hcb, hcell0⟩ := hC 0 (i : Int) (by rw [hg.shape]; rfl)
  subst hA
  have hcc : ∀ q z, ch[q]? = some z → w.cell? ⟨cb, coff + q, none⟩ = some (.int .i64 z) := fun q z hq => by
    obtain ⟨b', off', he, _, hc⟩ := hC q z hq
    cases he
    simpa using hc 0 _ rfl
  have hil : i < nl := by rw [← hl]; exact (List.getElem?_eq_some_iff.1 hg.first).1
  have hjl : j < nl := by rw [← hl]; exact (List.getElem?_eq_some_iff.1 hg.last).1
  have hij : i < j := hg.lt
  obtain ⟨lb, loff, hA, hlb, hlc⟩ := hL i c hg.first
  subst hA
  have hlcc : ∀ q d, l[q]? = some d → ∀ r u, (conCells d)[r]? = some u → w.cell? ⟨lb, loff + q * 8 + r, none⟩ = some u := fun q d hq r u hr => by
    obtain ⟨b', off', he, _, hc⟩ := hL q d hq
    cases he
    exact hc r u hr
  have hrange := good_range hg
  rw [hl] at hrange
  have hsl : ∀ w' : World, (Instr.slice 33 (.slice (some ⟨cb, coff, none⟩) (m + 1 + 1) cC) (some (.int .i64 1)) (some (.int .i64 ((m : Int) + 1))) none).run Try.prog w' = .ok (.slice (some ⟨cb, coff + 1, none⟩) m (cC - 1)) w' := fun w' => by
    have h := run_slice_mid (P := Try.prog) w' 33 3 i0 Try.underlying33 hi0 (some ⟨cb, coff, none⟩) (m + 1 + 1) cC 1 (m + 1) (by omega) (by omega)
    rw [if_neg (by omega), hz1, show ((m + 1 : Nat) : Int) = (m : Int) + 1 from rfl, show ((1 : Nat) : Int) = 1 from rfl, Nat.add_sub_cancel] at h
    simpa [Addr.add_lit] using h
  have hx0 := hcc 0 (i : Int) (by rw [hg.shape]; rfl)
  have hxj := hcc (m + 1) (j : Int) hchj
  rw [Nat.add_zero] at hx0
  have HG := Lib.hid hg
  have HCC := Lib.hid hcc
  have HLC := Lib.hid hlcc
  have HR := Lib.hid hrange
  have HLEN := Lib.hid hlen
  have HCHE := Lib.hid hche
  have HM := Lib.hid hm
  have HSL := Lib.hid hsl
  rw [hlen] at hcap hb2 ⊢
  clear hg hcc hlcc hrange hlen hche hm hsl hL hC hl hcell0 hlc hchj
  have hge : ¬ ((j : Int) ≤ (i : Int)) := by omega
  have hd2 : decide ((m : Int) + 1 + 1 < 2) = false := by simp; omega
  have hdj : decide ((j : Int) ≤ (i : Int)) = false := by simp; omega
  have hdj2 : decide (j ≤ i) = false := by simp; omega
  go_enter Try.func14, Try.ntmps14
  go_wp2_with fail
  go_quiet (fail)
  go_wp2_with fail
  clear hd2 hdj hdj2 hge
  go_loopg [30] (m + 1 + 1) (fun gk s wr => ∃ q : Nat, q + gk = m + 1 + 1 ∧ s = .int .i64 q ∧ Below w.heap.size w wr)
  case atStart => exact ⟨0, by omega, rfl, by (repeat (first | exact Below.refl _ _ | assumption | refine Below.trans ?_ (Below.mono (by assumption) (by first | omega | (simp; done) | (simp; omega))) | refine Below.alloc ?_ (by first | omega | (simp; done) | (simp; omega)) _ | refine Below.setCell ?_ (by first | omega | (simp; done) | (simp; omega)) _ | refine Below.drew ?_ | refine below_drewN ?_ _))⟩
  case round =>
    obtain ⟨q, hq, rfl, hB⟩ := hrel
    have hq' : q ≤ m + 1 + 1 := by omega
    have HQ := Lib.hid hq
    clear hq
    by_cases hlt : q < m + 1 + 1
    · have hlti : (q : Int) < (m : Int) + 1 + 1 := by omega
      have hqc : ch[q]? = some (ch[q]'(by rw [HLEN.out]; exact hlt)) := List.getElem?_eq_getElem _
      generalize ch[q]'(by rw [HLEN.out]; exact hlt) = z at hqc
      obtain ⟨x, rfl, hxn⟩ := HR.out z (List.mem_of_getElem? hqc)
      have hcx : wr.cell? ⟨cb, coff + q, none⟩ = some (.int .i64 (x : Int)) := (hB.cell (p := ⟨cb, _, none⟩) hcb).trans (HCC.out q _ hqc)
      have hxi : (x : Int) < (nl : Int) := by omega
      clear hqc
      go_wp2_with fail
      go_roundg (gk - 1)
      case measure => have := HQ.out; omega
      case rel => exact ⟨q + 1, by have := HQ.out; omega, by go_num, hB⟩
    · have hlti : ¬ ((q : Int) < (m : Int) + 1 + 1) := by omega
      have hKS : ∀ w' : World, Below w.heap.size w w' → w'.cell? ⟨cb, coff, none⟩ = some (.int .i64 (i : Int)) ∧ w'.cell? ⟨cb, coff + (m + 1), none⟩ = some (.int .i64 (j : Int)) ∧ w'.cell? ⟨lb, loff + i * 8, none⟩ = some (.int .i64 c.kind) ∧ w'.cell? ⟨lb, loff + i * 8 + 1, none⟩ = some (.int .i64 c.a) ∧ w'.cell? ⟨lb, loff + i * 8 + 2, none⟩ = some (.int .i64 c.b) ∧ w'.cell? ⟨lb, loff + i * 8 + 3, none⟩ = some (.int .i64 c.tk) ∧ w'.cell? ⟨lb, loff + i * 8 + 4, none⟩ = some (.int .i64 c.tl) ∧ w'.cell? ⟨lb, loff + i * 8 + 5, none⟩ = some (.string c.tr) ∧ w'.cell? ⟨lb, loff + i * 8 + 6, none⟩ = some (.int .i64 c.at_) ∧ w'.cell? ⟨lb, loff + i * 8 + 7, none⟩ = some (.int .i64 c.end_) ∧ w'.cell? ⟨lb, loff + j * 8, none⟩ = some (.int .i64 c'.kind) ∧ w'.cell? ⟨lb, loff + j * 8 + 1, none⟩ = some (.int .i64 c'.a) ∧ w'.cell? ⟨lb, loff + j * 8 + 2, none⟩ = some (.int .i64 c'.b) ∧ w'.cell? ⟨lb, loff + j * 8 + 3, none⟩ = some (.int .i64 c'.tk) ∧ w'.cell? ⟨lb, loff + j * 8 + 4, none⟩ = some (.int .i64 c'.tl) ∧ w'.cell? ⟨lb, loff + j * 8 + 5, none⟩ = some (.string c'.tr) ∧ w'.cell? ⟨lb, loff + j * 8 + 6, none⟩ = some (.int .i64 c'.at_) ∧ w'.cell? ⟨lb, loff + j * 8 + 7, none⟩ = some (.int .i64 c'.end_) := fun w' hb =>
        ⟨(hb.cell (p := ⟨cb, coff, none⟩) hcb).trans hx0, (hb.cell (p := ⟨cb, coff + (m + 1), none⟩) hcb).trans hxj, (hb.cell (p := ⟨lb, _, none⟩) hlb).trans (HLC.out i _ HG.out.first 0 _ rfl), (hb.cell (p := ⟨lb, _, none⟩) hlb).trans (HLC.out i _ HG.out.first 1 _ rfl), (hb.cell (p := ⟨lb, _, none⟩) hlb).trans (HLC.out i _ HG.out.first 2 _ rfl), (hb.cell (p := ⟨lb, _, none⟩) hlb).trans (HLC.out i _ HG.out.first 3 _ rfl), (hb.cell (p := ⟨lb, _, none⟩) hlb).trans (HLC.out i _ HG.out.first 4 _ rfl), (hb.cell (p := ⟨lb, _, none⟩) hlb).trans (HLC.out i _ HG.out.first 5 _ rfl), (hb.cell (p := ⟨lb, _, none⟩) hlb).trans (HLC.out i _ HG.out.first 6 _ rfl), (hb.cell (p := ⟨lb, _, none⟩) hlb).trans (HLC.out i _ HG.out.first 7 _ rfl), (hb.cell (p := ⟨lb, _, none⟩) hlb).trans (HLC.out j _ HG.out.last 0 _ rfl), (hb.cell (p := ⟨lb, _, none⟩) hlb).trans (HLC.out j _ HG.out.last 1 _ rfl), (hb.cell (p := ⟨lb, _, none⟩) hlb).trans (HLC.out j _ HG.out.last 2 _ rfl), (hb.cell (p := ⟨lb, _, none⟩) hlb).trans (HLC.out j _ HG.out.last 3 _ rfl), (hb.cell (p := ⟨lb, _, none⟩) hlb).trans (HLC.out j _ HG.out.last 4 _ rfl), (hb.cell (p := ⟨lb, _, none⟩) hlb).trans (HLC.out j _ HG.out.last 5 _ rfl), (hb.cell (p := ⟨lb, _, none⟩) hlb).trans (HLC.out j _ HG.out.last 6 _ rfl), (hb.cell (p := ⟨lb, _, none⟩) hlb).trans (HLC.out j _ HG.out.last 7 _ rfl)⟩
      have HKS := Lib.hid hKS
      have hil2 : (i : Int) < (nl : Int) := by omega
      have hjl2 : (j : Int) < (nl : Int) := by omega
      have hBs := hB.size
      clear hKS hx0 hxj
      obtain ⟨wo, rfl⟩ : ∃ wo : World, wo = wr := ⟨_, rfl⟩
      go_upto_region 9 with fail
      go_cut [7, 8] (fun s7 s8 wx => ∃ g7 g8 : Nat, s7 = .pointer (some ⟨g7, 0, none⟩) ∧ s8 = .pointer (some ⟨g8, 0, none⟩) ∧ Blk wx g7 36 (conCells c).toArray ∧ Blk wx g8 36 (conCells c').toArray ∧ Below wo.heap.size wo wx)
      case first =>
        have hpos : (0 : Int) < (m : Int) + 1 + 1 := by omega
        have hpos2 : 0 < m + 1 + 1 := by omega
        have hw3 : (0 : Int) ≤ (m : Int) + 1 := by omega
        have hw4 : (m : Int) + 1 < (m : Int) + 1 + 1 := by omega
        have hw1 : IntKind.i64.wrap ((m : Int) + 1 + 1 - 1) = (m : Int) + 1 := by rw [IntWalk.i64_in _ (by omega)]; omega
        have hw5 : IntKind.i64.wrap ((m : Int) + 1) = (m : Int) + 1 := IntWalk.i64_in _ (by omega)
        have hw2 : ((m : Int) + 1).toNat = m + 1 := by omega
        go_region_held3 (fun w' => w'.cell? ⟨cb, coff, none⟩ = some (.int .i64 (i : Int)) ∧ w'.cell? ⟨cb, coff + (m + 1), none⟩ = some (.int .i64 (j : Int)) ∧ w'.cell? ⟨lb, loff + i * 8, none⟩ = some (.int .i64 c.kind) ∧ w'.cell? ⟨lb, loff + i * 8 + 1, none⟩ = some (.int .i64 c.a) ∧ w'.cell? ⟨lb, loff + i * 8 + 2, none⟩ = some (.int .i64 c.b) ∧ w'.cell? ⟨lb, loff + i * 8 + 3, none⟩ = some (.int .i64 c.tk) ∧ w'.cell? ⟨lb, loff + i * 8 + 4, none⟩ = some (.int .i64 c.tl) ∧ w'.cell? ⟨lb, loff + i * 8 + 5, none⟩ = some (.string c.tr) ∧ w'.cell? ⟨lb, loff + i * 8 + 6, none⟩ = some (.int .i64 c.at_) ∧ w'.cell? ⟨lb, loff + i * 8 + 7, none⟩ = some (.int .i64 c.end_) ∧ w'.cell? ⟨lb, loff + j * 8, none⟩ = some (.int .i64 c'.kind) ∧ w'.cell? ⟨lb, loff + j * 8 + 1, none⟩ = some (.int .i64 c'.a) ∧ w'.cell? ⟨lb, loff + j * 8 + 2, none⟩ = some (.int .i64 c'.b) ∧ w'.cell? ⟨lb, loff + j * 8 + 3, none⟩ = some (.int .i64 c'.tk) ∧ w'.cell? ⟨lb, loff + j * 8 + 4, none⟩ = some (.int .i64 c'.tl) ∧ w'.cell? ⟨lb, loff + j * 8 + 5, none⟩ = some (.string c'.tr) ∧ w'.cell? ⟨lb, loff + j * 8 + 6, none⟩ = some (.int .i64 c'.at_) ∧ w'.cell? ⟨lb, loff + j * 8 + 7, none⟩ = some (.int .i64 c'.end_)) ((refine HKS.out _ ?_; (repeat (first | exact Below.refl _ _ | assumption | refine Below.trans ?_ (Below.mono (by assumption) (by first | omega | (simp; done) | (simp; omega))) | refine Below.alloc ?_ (by first | omega | (simp; done) | (simp; omega)) _ | refine Below.setCell ?_ (by first | omega | (simp; done) | (simp; omega)) _ | refine Below.drew ?_ | refine below_drewN ?_ _)))) (fail)
        all_goals
          go_wp2_with fail
          go_meet
          first
          | exact ⟨_, _, rfl, rfl, (blk_two wo (conCells c).toArray (conCells c').toArray _).1, (blk_two wo (conCells c).toArray (conCells c').toArray _).2, by (repeat (first | exact Below.refl _ _ | assumption | refine Below.trans ?_ (Below.mono (by assumption) (by first | omega | (simp; done) | (simp; omega))) | refine Below.alloc ?_ (by first | omega | (simp; done) | (simp; omega)) _ | refine Below.setCell ?_ (by first | omega | (simp; done) | (simp; omega)) _ | refine Below.drew ?_ | refine below_drewN ?_ _))⟩
          | exact ⟨_, _, rfl, rfl, (blk_two wo (conCells c').toArray (conCells c).toArray _).2, (blk_two wo (conCells c').toArray (conCells c).toArray _).1, by (repeat (first | exact Below.refl _ _ | assumption | refine Below.trans ?_ (Below.mono (by assumption) (by first | omega | (simp; done) | (simp; omega))) | refine Below.alloc ?_ (by first | omega | (simp; done) | (simp; omega)) _ | refine Below.setCell ?_ (by first | omega | (simp; done) | (simp; omega)) _ | refine Below.drew ?_ | refine below_drewN ?_ _))⟩
      case rest =>
        obtain ⟨g7, g8, rfl, rfl, h7, h8, hBc⟩ := hcut
        have hk7 : wc.cell? ⟨g7, 0, none⟩ = some (.int .i64 0) := by rw [← HG.out.kind]; exact h7.cell 0
        have hk8 : wc.cell? ⟨g8, 0, none⟩ = some (.int .i64 0) := by rw [← HG.out.kind']; exact h8.cell 0
        obtain ⟨u0, hu0⟩ : ∃ u0, c.a.toNat = u0 := ⟨_, rfl⟩
        obtain ⟨v0, hv0⟩ : ∃ v0, c'.a.toNat = v0 := ⟨_, rfl⟩
        have hua : c.a = (u0 : Int) := by have := HG.out.a0; omega
        have hva : c'.a = (v0 : Int) := by have := HG.out.a0'; omega
        have ha7 : wc.cell? ⟨g7, 1, none⟩ = some (.int .i64 (u0 : Int)) := by rw [← hua]; exact h7.cell 1
        have ha8 : wc.cell? ⟨g8, 1, none⟩ = some (.int .i64 (v0 : Int)) := by rw [← hva]; exact h8.cell 1
        have h73 : wc.cell? ⟨g7, 3, none⟩ = some (.int .i64 c.tk) := h7.cell 3
        have h74 : wc.cell? ⟨g7, 4, none⟩ = some (.int .i64 c.tl) := h7.cell 4
        have h75 : wc.cell? ⟨g7, 5, none⟩ = some (.string c.tr) := h7.cell 5
        have h83 : wc.cell? ⟨g8, 3, none⟩ = some (.int .i64 c'.tk) := h8.cell 3
        have h84 : wc.cell? ⟨g8, 4, none⟩ = some (.int .i64 c'.tl) := h8.cell 4
        have h85 : wc.cell? ⟨g8, 5, none⟩ = some (.string c'.tr) := h8.cell 5
        have hpath : PathI l u0 es v0 := by rw [← hu0, ← hv0]; exact HG.out.path
        have HP := Lib.hid hpath
        have hg7 := h7.lt
        have hg8 := h8.lt
        have hBw : Below w.heap.size w wc := hB.trans (hBc.mono hBs)
        have H8 := Lib.hid h8
        clear h7 h8 hpath hu0 hv0 hua hva
        go_wp2_with fail
        refine (ExcludeR_any _ _ _ _ _ _ _).mono ?_
        rintro e w9 ⟨rfl, hb9⟩
        rw [show exclB c.tk c.tl c.tr c'.tk c'.tl c'.tr = true from HG.out.excl]
        obtain ⟨hcc9, hff9⟩ := bcell hb9
        have hz9 := hb9.size
        have hsl := HSL.out
        go_wp2_with fail
        clear hcc9 hff9 hsl
        have hB9 : Below w.heap.size w w9 := hBw.trans (hb9.mono hBw.size)
        have ha9 : w9.cell? ⟨g8, 1, none⟩ = some (.int .i64 (v0 : Int)) := (hb9.cell (p := ⟨g8, 1, none⟩) hg8).trans ha8
        have hg9 : g8 < w9.heap.size := by omega
        clear hk7 hk8 ha7 ha8 h73 h74 h75 h83 h84 h85 HKS
        go_loopg [9, 82] m (fun gk s9 s82 wr => ∃ (q u : Nat), q + gk = m ∧ s82 = .int .i64 q ∧ s9 = .int .i64 (u : Int) ∧ PathI l u (es.drop q) v0 ∧ Below w9.heap.size w9 wr)
        case atStart => exact ⟨0, u0, by omega, rfl, rfl, by simpa using HP.out, Below.refl _ _⟩
        case round =>
          obtain ⟨q, u, hq, rfl, rfl, hpu, hBr⟩ := hrel
          have hqm : q ≤ m := by omega
          have HQ := Lib.hid hq
          have hBrs := hBr.size
          clear hq
          by_cases hlt : q < m
          · have hqe : q < es.length := by rw [HM.out]; exact hlt
            rw [List.drop_eq_getElem_cons hqe] at hpu
            obtain ⟨x, d, y, hx, hd, hdk, hdd, hrest⟩ := hpu
            have hcx : wr.cell? ⟨cb, coff + 1 + q, none⟩ = some (.int .i64 (x : Int)) := by
              rw [← hx, hBr.cell (p := ⟨cb, _, none⟩) (by show cb < _; have := hB9.size; omega), hB9.cell (p := ⟨cb, _, none⟩) hcb, show coff + 1 + q = coff + (q + 1) by omega]
              refine HCC.out (q + 1) _ ?_
              rw [HCHE.out q hlt]
              exact List.getElem?_eq_getElem hqe
            have hlx : ∀ r z, (conCells d)[r]? = some z → wr.cell? ⟨lb, loff + x * 8 + r, none⟩ = some z := fun r z hr => by
              rw [hBr.cell (p := ⟨lb, _, none⟩) (by show lb < _; have := hB9.size; omega), hB9.cell (p := ⟨lb, _, none⟩) hlb]
              exact HLC.out x d hd r z hr
            have hxn : (x : Int) < (nl : Int) := by
              obtain ⟨x', hx', hx''⟩ := HR.out (x : Int) (by
                rw [HG.out.shape, ← hx]
                exact List.mem_cons_of_mem _ (List.mem_append.2 (.inl (List.getElem_mem hqe))))
              omega
            have hl0 : wr.cell? ⟨lb, loff + x * 8, none⟩ = some (.int .i64 1) := by rw [← hdk]; exact hlx 0 _ rfl
            have hl1 := hlx 1 _ rfl
            have hl2 := hlx 2 _ rfl
            have hl3 := hlx 3 _ rfl
            have hl4 := hlx 4 _ rfl
            have hl5 := hlx 5 _ rfl
            have hl6 := hlx 6 _ rfl
            have hl7 := hlx 7 _ rfl
            have HRT := Lib.hid hrest
            clear hlx hrest hx hd hdk
            have hqi : (q : Int) < (m : Int) := by omega
            by_cases hau : d.a = (u : Int)
            · have hbe : (d.a == (u : Int)) = true := by simp [hau]
              have hby : d.b = (y : Int) := by
                rcases hdd with ⟨_, h2⟩ | ⟨h1, h2⟩
                · exact h2
                · omega
              rw [hby] at hl2
              rw [hau] at hl1
              clear hdd hau hbe hby
              go_wp2_with fail
              go_roundg (gk - 1)
              case measure => have := HQ.out; omega
              case rel => exact ⟨q + 1, y, by have := HQ.out; omega, by go_num, rfl, HRT.out, by (repeat (first | exact Below.refl _ _ | assumption | refine Below.trans ?_ (Below.mono (by assumption) (by first | omega | (simp; done) | (simp; omega))) | refine Below.alloc ?_ (by first | omega | (simp; done) | (simp; omega)) _ | refine Below.setCell ?_ (by first | omega | (simp; done) | (simp; omega)) _ | refine Below.drew ?_ | refine below_drewN ?_ _))⟩
            · have hbe : (d.a == (u : Int)) = false := by simpa using hau
              have hdd2 : d.b = (u : Int) ∧ d.a = (y : Int) := by
                rcases hdd with ⟨h1, _⟩ | h1
                · exact absurd h1 hau
                · exact h1
              rw [hdd2.1] at hl2
              rw [hdd2.2] at hl1 hbe
              clear hdd hau hdd2
              go_wp2_with fail
              go_roundg (gk - 1)
              case measure => have := HQ.out; omega
              case rel => exact ⟨q + 1, y, by have := HQ.out; omega, by go_num, rfl, HRT.out, by (repeat (first | exact Below.refl _ _ | assumption | refine Below.trans ?_ (Below.mono (by assumption) (by first | omega | (simp; done) | (simp; omega))) | refine Below.alloc ?_ (by first | omega | (simp; done) | (simp; omega)) _ | refine Below.setCell ?_ (by first | omega | (simp; done) | (simp; omega)) _ | refine Below.drew ?_ | refine below_drewN ?_ _))⟩
          · have hqe : q = m := by omega
            rw [List.drop_eq_nil_of_le (by rw [HM.out]; omega)] at hpu
            have huv : u = v0 := hpu
            subst huv
            clear hpu hqe
            have hax : wr.cell? ⟨g8, 1, none⟩ = some (.int .i64 (u : Int)) := (hBr.cell (p := ⟨g8, 1, none⟩) hg9).trans ha9
            clear ha9
            go_wp2_with fail
            go_ret
            exact ⟨rfl, hB9.trans (hBr.mono hB9.size)⟩

end Go.Proofs.Ytpdimehoepfgaaa
