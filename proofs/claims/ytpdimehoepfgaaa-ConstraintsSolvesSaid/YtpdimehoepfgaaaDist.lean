/- (graph).distances: the breadth-first search of the model. -/
import Derived.Test.YtpdimehoepfgaaaInts
import Derived.Test.YtpdimehoepfgaaaModel
namespace Go.Proofs.Ytpdimehoepfgaaa
open Go.RowKit

def edgeCells (e : Edge) : List Value := [.int .i64 e.con, .int .i64 e.to]
def natCells (z : Nat) : List Value := [.int .i64 (z : Int)]

/-- The edges of a graph, read through a slice. -/
def EdgesAt (w : World) (B : Nat) (AE : Option Addr) (E : List (List Edge)) : Prop :=
  ∀ v es, E[v]? = some es → ∃ b off Ai c, AE = some ⟨b, off, none⟩ ∧ b < B ∧ w.cell? ⟨b, off + v, none⟩ = some (.slice Ai es.length c) ∧ RowAt 2 edgeCells w B Ai es

theorem EdgesAt.below {w w' : World} {B B' : Nat} {AE : Option Addr} {E : List (List Edge)} (h : EdgesAt w B AE E) (hb : Below B' w w') (hB : B ≤ B') : EdgesAt w' B AE E := by
  intro v es hv
  obtain ⟨b, off, Ai, c, hA, hlt, hc, hr⟩ := h v es hv
  exact ⟨b, off, Ai, c, hA, hlt, (hb.cell (p := ⟨b, _, none⟩) (by show b < B'; omega)).trans hc, hr.below hb hB⟩

theorem EdgesAt.mono {w : World} {B B' : Nat} {AE : Option Addr} {E : List (List Edge)} (h : EdgesAt w B AE E) (hB : B ≤ B') : EdgesAt w B' AE E := by
  intro v es hv
  obtain ⟨b, off, Ai, c, hA, hlt, hc, hr⟩ := h v es hv
  exact ⟨b, off, Ai, c, hA, by omega, hc, hr.mono hB⟩

theorem below_alloc (w : World) (o : Obj) : Below w.heap.size w (w.alloc o) := (Below.refl _ _).alloc (Nat.le_refl _) _

theorem RowAt.ofNats {w : World} {B : Nat} {A : Option Addr} {F : List Nat} (h : RowAt 1 natCells w B A F) : RowAt 1 (fun z => [Value.int .i64 z]) w B A (F.map fun x : Nat => (x : Int)) := by
  intro k c hk
  rw [List.getElem?_map] at hk
  cases hx : F[k]? with
  | none => rw [hx] at hk; cases hk
  | some z =>
    rw [hx] at hk
    cases hk
    exact h k z hx

theorem OwnS.ints {w : World} {base : Nat} {e : TypeId} {v : Value} {n : Nat} {l : List Nat} (h : OwnS w base e 1 v n (ivs (l.map fun x : Nat => (x : Int)))) : l.length = n := by
  have := h.1
  simpa using this

/-- The tail of an own slice of ints. -/
theorem OwnS.tail {w : World} {base : Nat} {e : TypeId} {g off n cap : Nat} {x : Value} {xs : List Value} (h : OwnS w base e 1 (.slice (some ⟨g, off, none⟩) (n + 1) cap) (n + 1) (x :: xs)) :
    OwnS w base e 1 (if cap = 1 then .slice (some ⟨g, off, none⟩) n (cap - 1) else .slice (some ⟨g, off + 1, none⟩) n (cap - 1)) n xs := by
  have h1 := h.1
  refine ⟨by simpa using h1, ?_⟩
  rcases h.2 with ⟨hv, _⟩ | ⟨g', off', cap', cur, hv, hb, hg, hn, hm, hs, ht⟩
  · cases hv
  · cases hv
    by_cases hc : cap = 1
    · subst hc
      have hn0 : n = 0 := by omega
      subst hn0
      have hx : xs = [] := List.eq_nil_of_length_eq_zero (by simpa using h1)
      subst hx
      rw [if_pos rfl]
      exact .inr ⟨g, off, 0, cur, rfl, hb, hg, Nat.le_refl _, by omega, by omega, by simp⟩
    · rw [if_neg hc]
      refine .inr ⟨g, off + 1, cap - 1, cur, rfl, hb, hg, by omega, by omega, by omega, ?_⟩
      rw [Nat.mul_one] at ht ⊢
      have h2 := congrArg List.tail ht
      rw [List.tail_cons] at h2
      rw [← h2, ← List.drop_one, List.drop_take, List.drop_drop]
      rfl

theorem news_one (w : World) (g : Nat) (u : Value) (h : w.cell? ⟨g, 0, none⟩ = some u) : ∀ j v, [u][j]? = some v → w.cell? ((⟨g, 0, none⟩ : Addr).add j) = some v := by
  intro j v hj
  cases j with
  | zero => simp at hj; subst hj; exact h
  | succ j => simp at hj

theorem run_tail (g off n cap : Nat) (w : World) :
    (Instr.slice 33 (.slice (some ⟨g, off, none⟩) (n + 1) cap) (some (.int .i64 1)) none none).run Try.prog w =
      .ok (if cap = 1 then .slice (some ⟨g, off, none⟩) n (cap - 1) else .slice (some ⟨g, off + 1, none⟩) n (cap - 1)) w := by
  obtain ⟨i0, hi0, hz0, hz1, hz2⟩ := info_parts int_info
  have := run_slice_from (P := Try.prog) w 33 3 i0 Try.underlying33 hi0 (some ⟨g, off, none⟩) (n + 1) cap 1 (by omega)
  rw [show ((1 : Nat) : Int) = 1 from rfl] at this
  rw [this]
  by_cases hc : cap = 1
  · simp [hc]
  · simp [hc, hz1, Addr.add]

set_option maxHeartbeats 2000000 in
set_option maxRecDepth 100000 in
theorem distances_any (lv mv : Value) (AE : Option Addr) (n cE : Nat) (E : List (List Edge)) (AF : Option Addr) (nf cf : Nat) (F : List Nat) (w : World)
    (hE : EdgesAt w w.heap.size AE E) (hEl : E.length = n) (hEt : ∀ es ∈ E, ∀ e ∈ es, e.to < n) (hEn : ∀ es ∈ E, es.length ≤ 1000000) (hF : RowAt 1 natCells w w.heap.size AF F) (hFl : F.length = nf) (hf0 : 0 < nf) (hFt : ∀ u ∈ F, u < n)
    (hn : n ≤ 5000) (hnf : nf ≤ 5000) :
    Calls Try.prog 28 #[.agg #[lv, .slice AE n cE, mv], .slice AF nf cf] w fun e w' =>
      ∃ g, e = .returned (.slice (some ⟨g, 0, none⟩) n n) ∧ w.heap.size ≤ g ∧ IntsBlk w' g (distM E n F) ∧ Below w.heap.size w w' := by
  obtain ⟨i0, hi0, hz0, hz1, hz2⟩ := info_parts int_info
  have hmk := run_make_ints n (by omega)
  have HE := Lib.hid hE
  have HEl := Lib.hid hEl
  have HEt := Lib.hid hEt
  have HEn := Lib.hid hEn
  have HF := Lib.hid hF
  have HFl := Lib.hid hFl
  have HFt := Lib.hid hFt
  clear hE hEl hEt hEn hF hFl hFt
  go_enter Try.func28, Try.ntmps28
  go_wp2_with fail
  generalize hW0 : w.alloc (.cells #[lv, .slice AE n cE, mv] 52) = W0
  have hWs : W0.heap.size = w.heap.size + 1 := by rw [← hW0]; simp
  have hWb : Below w.heap.size w W0 := by rw [← hW0]; exact below_alloc w _
  have hWc : W0.cell? ⟨w.heap.size, 1, none⟩ = some (.slice AE n cE) := by rw [← hW0]; simp
  have hB0 : Below (w.heap.size + 1) W0 (W0.alloc (.cells (Array.replicate n (Value.int IntKind.i64 0)) 3)) := by
    have := below_alloc W0 (.cells (Array.replicate n (Value.int IntKind.i64 0)) 3)
    rwa [hWs] at this
  have hI0 : IntsBlk (W0.alloc (.cells (Array.replicate n (Value.int IntKind.i64 0)) 3)) (w.heap.size + 1) (List.replicate n 0) := by
    have := IntsBlk.new W0 (List.replicate n 0)
    rw [hWs] at this
    simpa using this
  have HI0 := Lib.hid hI0
  have HWs := Lib.hid hWs
  have HWc := Lib.hid hWc
  clear hI0 hWs hWc hW0
  go_loopg [19] n (fun gk i wr => ∃ k : Nat, k + gk = n ∧ i = .int .i64 k ∧ IntsBlk wr (w.heap.size + 1) (List.replicate k (-1) ++ List.replicate (n - k) 0) ∧ Below (w.heap.size + 1) W0 wr)
  case atStart => exact ⟨0, by omega, rfl, by simpa using HI0.out, hB0⟩
  case round =>
    clear HI0 hB0
    obtain ⟨k, hk, rfl, hI, hB⟩ := hrel
    have hk' : k ≤ n := by omega
    have HK := Lib.hid hk
    clear hk
    by_cases hlt : k < n
    · have hce := hI.cell (i := k) (by simp; omega)
      have hfr := hI.frozen k
      go_wp2_with fail
      go_roundg (gk - 1)
      case measure => have := HK.out; omega
      case rel =>
        refine ⟨k + 1, by have := HK.out; omega, by go_num, ?_, hB.setCell (by simp) _⟩
        have := hI.set k (-1)
        rw [fill_step n k _ _ hlt] at this
        exact this
    · have hkn : k = n := by omega
      have hI1 : IntsBlk wr (w.heap.size + 1) (List.replicate n (-1)) := by
        subst hkn
        simpa using hI
      have HI1 := Lib.hid hI1
      clear hI1 hI hkn HK
      have hBw : Below w.heap.size w wr := hWb.trans (hB.mono (by omega))
      go_wp2_with fail
      refine (Clone_any AF nf cf (F.map fun x : Nat => (x : Int)) wr (by simp [HFl.out]) ((HF.out.below hBw (Nat.le_refl _)).mono hBw.size).ofNats hf0 (by omega)).mono ?_
      rintro e w1 ⟨tv, rfl, hT, hb1⟩
      have hsz := HWs.out
      have hB1 : Below (w.heap.size + 1) W0 w1 := hB.trans (hb1.mono (by have := hB.size; omega))
      have hI1 : IntsBlk w1 (w.heap.size + 1) (List.replicate n (-1)) := HI1.out.below hb1 (HI1.out.lt)
      have hT1 : OwnS w1 (w.heap.size + 2) 3 1 tv nf (ivs (F.map fun x : Nat => (x : Int))) := hT.mono (by have := HI1.out.lt; omega)
      clear hT hb1 hB hBw HI1 hsz hk' hlt
      go_wp2_with fail
      go_loopg [30] nf (fun gk i wr => ∃ k : Nat, k + gk = nf ∧ i = .int .i64 k ∧ IntsBlk wr (w.heap.size + 1) (zeros (List.replicate n (-1)) (F.take k)) ∧ Below (w.heap.size + 1) W0 wr ∧ OwnS wr (w.heap.size + 2) 3 1 tv nf (ivs (F.map fun x : Nat => (x : Int))))
      case atStart => exact ⟨0, by omega, rfl, by simpa [zeros] using hI1, hB1, hT1⟩
      case round =>
        clear hI1 hB1 hT1 w1
        obtain ⟨k, hk, rfl, hI, hB, hT⟩ := hrel
        have hk' : k ≤ nf := by omega
        have HK := Lib.hid hk
        have HI := Lib.hid hI
        have HT := Lib.hid hT
        clear hk hI hT
        have hBw : Below w.heap.size w wr := hWb.trans (hB.mono (by omega))
        by_cases hlt : k < nf
        · have hkF : k < F.length := by rw [HFl.out]; exact hlt
          have hu : F[k]? = some F[k] := List.getElem?_eq_getElem hkF
          obtain ⟨fb, foff, hA, hfb, hfc⟩ := (HF.out.below hBw (Nat.le_refl _)) k _ hu
          subst hA
          have hcF : wr.cell? ⟨fb, foff + k, none⟩ = some (.int .i64 (F[k] : Int)) := by simpa using hfc 0 _ rfl
          have hun : F[k] < n := HFt.out _ (List.getElem_mem hkF)
          have hzl : (zeros (List.replicate n (-1)) (F.take k)).length = n := by rw [zeros_len]; simp
          have hce := HI.out.cell (i := F[k]) (by omega)
          have hfr := HI.out.frozen F[k]
          have HU := Lib.hid hu
          clear hfc hzl hu
          generalize F[k] = u at *
          go_wp2_with fail
          go_roundg (gk - 1)
          case measure => have := HK.out; omega
          case rel =>
            refine ⟨k + 1, by have := HK.out; omega, by go_num, ?_, hB.setCell (by simp) _, HT.out.setCell ?_ _⟩
            · rw [zeros_take _ _ _ _ HU.out]
              exact HI.out.set u 0
            · intro e
              have := (HT.out.lt _ e).1
              simp at this
        · have hkn : k = nf := by omega
          have hI2 : IntsBlk wr (w.heap.size + 1) (zeros (List.replicate n (-1)) F) := by
            have := HI.out
            rwa [hkn, ← HFl.out, List.take_length] at this
          have HI2 := Lib.hid hI2
          have HT2 : Hid (OwnS wr (w.heap.size + 2) 3 1 tv F.length (ivs (F.map fun x : Nat => (x : Int)))) := by
            have := HT.out
            rw [← HFl.out] at this
            exact this
          clear hI2 HI HT hkn HK hk'
          go_wp2_with fail
          clear hlt
          go_loopg [7] (F.length + neg (zeros (List.replicate n (-1)) F)) (fun gk v wr => ∃ out todo, todo.length + neg out = gk ∧ Fair n (F.length + n) out todo ∧ IntsBlk wr (w.heap.size + 1) out ∧ Below (w.heap.size + 1) W0 wr ∧ OwnS wr (w.heap.size + 2) 3 1 v todo.length (ivs (todo.map fun x : Nat => (x : Int))) ∧ bfs E (todo.length + neg out) out todo = distM E n F)
          case atStart =>
            exact ⟨_, F, rfl, fair_start n F HFt.out, HI2.out, hB, HT2.out, distM_start E n F HEt.out HFt.out⟩
          case round =>
            clear HI2 HT2 hBw hB
            obtain ⟨out, todo, hk, hfair, hI, hB, hT, hbfs⟩ := hrel
            have HKo := Lib.hid hk
            have HI := Lib.hid hI
            have HB := Lib.hid hbfs
            have HFA := Lib.hid hfair
            clear hk hI hbfs hfair
            cases todo with
            | nil =>
              obtain ⟨A, c, rfl, _, _⟩ := hT.shape
              clear hT
              simp only [List.length_nil]
              go_wp2_with fail
              go_ret
              refine ⟨w.heap.size + 1, rfl, by omega, ?_, hWb.trans (hB.mono (by omega))⟩
              have := HB.out
              rw [bfs_nil] at this
              rw [← this]
              exact HI.out
            | cons x rest =>
              obtain ⟨tg, toff, cap, rfl, hc1, hc2, hg1, hg2, hcx⟩ := hT.form (by simp)
              simp only [List.length_cons] at hc1
              have hcx0 : wr.cell? ⟨tg, toff, none⟩ = some (.int .i64 (x : Int)) := by simpa using hcx 0 _ rfl
              have hT2 := OwnS.tail hT
              have hsl := run_tail tg toff rest.length cap
              generalize (if cap = 1 then Value.slice (some ⟨tg, toff, none⟩) rest.length (cap - 1) else Value.slice (some ⟨tg, toff + 1, none⟩) rest.length (cap - 1)) = tv2 at hsl hT2
              have HT2 := Lib.hid hT2
              clear hcx hT hT2
              have hx := HFA.out.todo x (by simp)
              have hxn : x < n := hx.1
              have hxE : x < E.length := by rw [HEl.out]; exact hxn
              have hex : E[x]? = some E[x] := List.getElem?_eq_getElem hxE
              obtain ⟨eb, eoff, Ai, ci, hA, heb, hec0, her⟩ := HE.out x _ hex
              subst hA
              have hec := ((hWb.trans (hB.mono (Nat.le_succ _))).cell (p := ⟨eb, eoff + x, none⟩) heb).trans hec0
              clear hec0
              have hgc : wr.cell? ⟨w.heap.size, 1, none⟩ = some (.slice (some ⟨eb, eoff, none⟩) n cE) := (hB.cell (p := ⟨w.heap.size, 1, none⟩) (by simp)).trans HWc.out
              simp only [List.length_cons]
              go_wp2_with fail
              have hgood := HFA.out.good
              have hel : E[x].length ≤ 1000000 := HEn.out _ (List.getElem_mem hxE)
              have het : ∀ e ∈ E[x], e.to < n := HEt.out _ (List.getElem_mem hxE)
              have hEx : E.getD x [] = E[x] := by rw [List.getD_eq_getElem?_getD, hex]; rfl
              have hrnd := bfs_round HFA.out HEt.out
              rw [hEx] at hrnd
              have hfin := hgood.fold E[x] het
              have HG := Lib.hid hgood
              have HET := Lib.hid het
              have HR := Lib.hid hrnd
              have HER := Lib.hid her
              have HFI := Lib.hid hfin
              clear hgood het hrnd her hfin hEx hex hec hgc hsl
              generalize E[x] = es at *
              go_loopg [52, 7] es.length (fun gk2 i v wx => ∃ k : Nat, k + gk2 = es.length ∧ i = .int .i64 k ∧ IntsBlk wx (w.heap.size + 1) ((es.take k).foldl (dstep x) (out, rest)).1 ∧ Below (w.heap.size + 1) W0 wx ∧
                OwnS wx (w.heap.size + 2) 3 1 v ((es.take k).foldl (dstep x) (out, rest)).2.length (ivs (((es.take k).foldl (dstep x) (out, rest)).2.map fun x : Nat => (x : Int))))
              case atStart => exact ⟨0, by omega, rfl, by simpa using HI.out, hB, by simpa using HT2.out⟩
              case round =>
                obtain ⟨k, hk, rfl, hI, hBx, hT⟩ := hrel
                have hkl : k ≤ es.length := by omega
                have HK := Lib.hid hk
                have HI := Lib.hid hI
                have HT := Lib.hid hT
                clear hk hI hT
                by_cases hlt : k < es.length
                · have hek : es[k]? = some es[k] := List.getElem?_eq_getElem hlt
                  have hBo : Below w.heap.size w wr := hWb.trans (hBx.mono (by omega))
                  obtain ⟨ib, ioff, hA, hib, hic⟩ := (HER.out.below hBo (Nat.le_refl _)) k _ hek
                  subst hA
                  have hc0 : wr.cell? ⟨ib, ioff + k * 2, none⟩ = some (.int .i64 (es[k].con : Int)) := hic 0 _ rfl
                  have hc1 : wr.cell? ⟨ib, ioff + k * 2 + 1, none⟩ = some (.int .i64 (es[k].to : Int)) := hic 1 _ rfl
                  have hton : es[k].to < n := HET.out _ (List.getElem_mem hlt)
                  have hgk := (HG.out.fold (es.take k) (fun e he => HET.out e (List.mem_of_mem_take he))).1
                  have hstep := foldl_take_succ (dstep x) (out, rest) es k _ hek
                  have HS := Lib.hid hstep
                  have HGK := Lib.hid hgk
                  have hlen := hgk.len
                  have hce := HI.out.cell (i := es[k].to) (by omega)
                  have hcx := HI.out.cell (i := x) (by omega)
                  have hfr := HI.out.frozen es[k].to
                  have hlo := hgk.lo _ (getD_mem (l := (List.foldl (dstep x) (out, rest) (List.take k es)).1) (i := es[k].to) (by omega))
                  have hx0 := hgk.v0
                  have hx1 := hgk.v1
                  have hKb : ((F.length + n : Nat) : Int) ≤ 10000 := by have := HFl.out; omega
                  have hne1 : w.heap.size + 1 < wr.heap.size := HI.out.lt
                  have hne2 : ib < wr.heap.size := by have := HI.out.lt; omega
                  have hsl2 : (List.foldl (dstep x) (out, rest) (List.take k es)).2.length ≤ 10000 := by
                    have h1 := (HG.out.fold (es.take k) (fun e he => HET.out e (List.mem_of_mem_take he))).2
                    have h2 := HFA.out.hi x
                    have h3 := hgk.v0
                    simp only at h1
                    omega
                  clear hic hek hstep hgk hlen
                  generalize es[k] = ed at *
                  generalize List.foldl (dstep x) (out, rest) (List.take k es) = s at *
                  obtain ⟨dx, hdx⟩ : ∃ dx, s.1.getD x 0 = dx := ⟨_, rfl⟩
                  obtain ⟨dt, hdt⟩ : ∃ dt, s.1.getD ed.to 0 = dt := ⟨_, rfl⟩
                  rw [hdx] at hcx hx0 hx1
                  rw [hdt] at hce hlo
                  have HDX := Lib.hid hdx
                  have HDT := Lib.hid hdt
                  clear hdx hdt
                  by_cases hd : dt < 0
                  · go_wp2_with fail
                    go_region
                    have hp : u7.ownBlock ≠ some (w.heap.size + 1) := fun e => by have := (HT.out.lt _ e).1; omega
                    have hT0 := HT.out
                    have hI0 := HI.out
                    go_wp2_with (at_builtin; go_must (refine wpList_append_S _ rfl (.tmp 71) (.tmp 74) _ rfl (w.heap.size + 2) 3 i0 _ 1 8 Try.underlying33 hi0 hz0 hz1 hz2 rfl u7 s.2.length (ivs (s.2.map fun x : Nat => (x : Int))) rfl (by (repeat (first | assumption | refine OwnS.drew ?_ | refine OwnS.drewN ?_ _ | refine OwnS.alloc ?_ _ | refine OwnS.setCell ?_ (by assumption) _))) ⟨wr.heap.size + 1, 0, none⟩ 1 1 [.int .i64 (ed.to : Int)] rfl rfl (news_one _ _ _ (by go_simp)) (by simp [Value.oneCell']) (by simp only [maxLen]; omega) (by omega) (by simp; omega) ?_); intro v' w1 hown hgrow hat)
                    go_roundg (gk - 1)
                    case measure => have := HK.out; omega
                    case rel =>
                      refine ⟨k + 1, by have := HK.out; omega, by go_num, ?_⟩
                      rw [HS.out, show dstep x s ed = _ from if_pos (by rw [HDT.out]; exact hd), HDX.out]
                      refine ⟨IntsBlk.grown (by (repeat (first | assumption | refine IntsBlk.drew ?_ | refine IntsBlk.drewN ?_ _ | refine IntsBlk.alloc ?_ _ | refine IntsBlk.set ?_ _ _ | refine IntsBlk.far ?_ (by first | assumption | omega | (simp; omega)) _))) hgrow (fun e => hp e.symm), Below.grown (by (repeat (first | exact Below.refl _ _ | assumption | refine Below.trans ?_ (Below.mono (by assumption) (by first | omega | (simp; done) | (simp; omega))) | refine Below.alloc ?_ (by first | omega | (simp; done) | (simp; omega)) _ | refine Below.setCell ?_ (by first | omega | (simp; done) | (simp; omega)) _ | refine Below.drew ?_ | refine below_drewN ?_ _))) hgrow (by simp; omega) (fun g e => by have := (HT.out.lt _ e).1; omega), ?_⟩
                      simpa using hown
                  · go_wp2_with fail
                    go_roundg (gk - 1)
                    case measure => have := HK.out; omega
                    case rel =>
                      refine ⟨k + 1, by have := HK.out; omega, by go_num, ?_⟩
                      rw [HS.out, show dstep x s ed = s from if_neg (by rw [HDT.out]; omega)]
                      exact ⟨HI.out.alloc _, hBx.alloc (by omega) _, HT.out.alloc _⟩
                · have hkn : k = es.length := by omega
                  subst hkn
                  rw [List.take_length] at *
                  go_wp2_with fail
                  go_roundg ((es.foldl (dstep x) (out, rest)).2.length + neg (es.foldl (dstep x) (out, rest)).1)
                  case measure =>
                    have h1 := HKo.out
                    have h2 := HFI.out.2
                    simp only [List.length_cons] at h1 h2
                    omega
                  case rel =>
                    refine ⟨_, _, rfl, HFI.out.1.fair HFI.out.2, ?_, hBx, ?_, HR.out.symm.trans HB.out⟩
                    · exact HI.out
                    · exact HT.out

end Go.Proofs.Ytpdimehoepfgaaa
