/- Explain of the program and of the reference, walked; Steps at equal lists. -/
import Derived.Test.YtpdimehoepfgaaaFmt
import Derived.Test.YtpdimehoepfgaaaGraph
import Derived.Test.YtpdimehoepfgaaaDist
import Derived.Test.YtpdimehoepfgaaaOwn
namespace Go.Proofs.Ytpdimehoepfgaaa
open Go.RowKit

/-- A step of an explanation. -/
structure St where
  k : Int
  at_ : Int
  end_ : Int
  t : ByteArray

def stCells (s : St) : List Value := [.int .i64 s.k, .int .i64 s.at_, .int .i64 s.end_, .string s.t]
def stepOf (c : Con) : St := ⟨c.kind, c.at_, c.end_, if c.kind = 0 then fmtB c.tk c.tl c.tr else ⟨#[]⟩⟩
def stepAt (l : List Con) (i : Int) : List St := match l[i.toNat]? with | some c => [stepOf c] | none => []
def inL (nl : Nat) (i : Int) : Bool := decide (0 ≤ i) && decide (i < (nl : Int))
def explM (l : List Con) (ch : List Int) : List St := if ch.all (inL l.length) = true then ch.flatMap (stepAt l) else []

theorem step_info : (Try.prog.info? 65).map (fun i => (i.zero, i.size, i.bytes)) = some (some (.agg #[.int .i64 0, .int .i64 0, .int .i64 0, .string ⟨#[]⟩]), 4, 40) := by kernel_rfl

theorem news_four (w : World) (g : Nat) (a b c d : Value) (h0 : w.cell? ⟨g, 0, none⟩ = some a) (h1 : w.cell? ⟨g, 1, none⟩ = some b) (h2 : w.cell? ⟨g, 2, none⟩ = some c) (h3 : w.cell? ⟨g, 3, none⟩ = some d) :
    ∀ j v, [a, b, c, d][j]? = some v → w.cell? ((⟨g, 0, none⟩ : Addr).add j) = some v := by
  intro j v hj
  match j, hj with
  | 0, hj => simp at hj; subst hj; exact h0
  | 1, hj => simp at hj; subst hj; exact h1
  | 2, hj => simp at hj; subst hj; exact h2
  | 3, hj => simp at hj; subst hj; exact h3
  | j + 4, hj => simp at hj

theorem stepAt_some {l : List Con} {i : Nat} {c : Con} (h : l[i]? = some c) : stepAt l (i : Int) = [stepOf c] := by
  unfold stepAt
  rw [Int.toNat_natCast, h]

theorem expl_len {l : List Con} {ch : List Int} : (ch.flatMap (stepAt l)).length ≤ ch.length := by
  induction ch with
  | nil => simp
  | cons x ch ih =>
    have h1 : (stepAt l x).length ≤ 1 := by unfold stepAt; split <;> simp
    rw [List.flatMap_cons, List.length_append, List.length_cons]
    omega

/-- What Explain answers. -/
def ExplRes (w : World) (r : List St) (e : Ending) (w' : World) : Prop :=
  ∃ A m c, e = .returned (.slice A m c) ∧ r.length = m ∧ RowAt 4 stCells w' w'.heap.size A r ∧ Below w.heap.size w w'

theorem expl_all {l : List Con} {ch : List Int} {nl : Nat} (hl : l.length = nl) (hcl : ∀ z ∈ ch, inL nl z = true) : explM l ch = ch.flatMap (stepAt l) := by
  unfold explM
  rw [if_pos]
  rw [List.all_eq_true, hl]
  exact hcl

theorem expl_not {l : List Con} {ch : List Int} {nl q : Nat} {z : Int} (hl : l.length = nl) (hq : ch[q]? = some z) (hz : inL nl z = false) : explM l ch = [] := by
  unfold explM
  rw [if_neg]
  rw [List.all_eq_true, hl]
  intro h
  have := h z (List.mem_of_getElem? hq)
  rw [hz] at this
  cases this

theorem expl_snoc {l : List Con} {ch : List Int} {q i : Nat} {c : Con} (hq : ch[q]? = some (i : Int)) (hc : l[i]? = some c) : (ch.take (q + 1)).flatMap (stepAt l) = (ch.take q).flatMap (stepAt l) ++ [stepOf c] := by
  rw [List.take_add_one, hq]
  simp [stepAt_some hc]

theorem rowSt {w : World} {base n c : Nat} {A : Option Addr} {r : List St} (h : OwnS w base 65 4 (.slice A n c) n (r.flatMap stCells)) (hr : r.length = n) : RowAt 4 stCells w w.heap.size A r :=
  h.rowAt rfl rfl (by intro c _; rfl) hr

set_option maxHeartbeats 2000000 in
set_option maxRecDepth 100000 in
theorem Explain_any (AL : Option Addr) (nl cL : Nat) (l : List Con) (AC : Option Addr) (m cC : Nat) (ch : List Int) (w : World) (hL : RowAt 8 conCells w w.heap.size AL l) (hl : l.length = nl) (hC : RowAt 1 (fun z => [Value.int .i64 z]) w w.heap.size AC ch) (hcl : ch.length = m) (hm : m ≤ 1000) (hfit : ∀ c ∈ l, c.tl < 9223372036854775808) :
    Calls Try.prog 20 #[.slice AL nl cL, .slice AC m cC] w (ExplRes w (explM l ch)) := by
  obtain ⟨i0, hi0, hz0, hz1, hz2⟩ := info_parts step_info
  have HL := Lib.hid hL
  have HLl := Lib.hid hl
  have HC := Lib.hid hC
  have HCL := Lib.hid hcl
  have HFIT := Lib.hid hfit
  clear hL hl hC hcl hfit
  go_enter Try.func20, Try.ntmps20
  go_wp2_with fail
  go_loopg [5, 11] m (fun gk s5 s11 wr => ∃ q : Nat, q + gk = m ∧ s11 = .int .i64 q ∧ (∀ z ∈ ch.take q, inL nl z = true) ∧ OwnS wr w.heap.size 65 4 s5 ((ch.take q).flatMap (stepAt l)).length (((ch.take q).flatMap (stepAt l)).flatMap stCells) ∧ ((ch.take q).flatMap (stepAt l)).length = q ∧ Below w.heap.size w wr)
  case atStart => exact ⟨0, by omega, rfl, by simp, OwnS.nil _ _ _ _, by simp, Below.refl _ _⟩
  case round =>
    obtain ⟨q, hq, rfl, hin, hO, hql, hB⟩ := hrel
    have hq' : q ≤ m := by omega
    rw [hql] at hO
    generalize hrs : (ch.take q).flatMap (stepAt l) = rs at *
    have HQ := Lib.hid hq
    have HIN := Lib.hid hin
    have HO := Lib.hid hO
    have HQL := Lib.hid hql
    have HRS := Lib.hid hrs
    clear hq hin hO hql hrs
    have hBs := hB.size
    by_cases hlt : q < m
    · have hcz : ch[q]? = some (ch[q]'(by rw [HCL.out]; exact hlt)) := List.getElem?_eq_getElem _
      generalize ch[q]'(by rw [HCL.out]; exact hlt) = z at hcz
      obtain ⟨b2, o2, hA2, hb2, hc2⟩ := (HC.out.below hB (Nat.le_refl _)) q _ hcz
      subst hA2
      have hx : wr.cell? ⟨b2, o2 + q, none⟩ = some (.int .i64 z) := by simpa using hc2 0 _ rfl
      have hqi : (q : Int) < (m : Int) := by omega
      have HCZ := Lib.hid hcz
      clear hc2 hcz
      by_cases hzn : z < 0
      · have hres := expl_not HLl.out HCZ.out (z := z) (by unfold inL; simp; omega)
        have HRES := Lib.hid hres
        clear hres
        go_wp2_with fail
        go_ret
        rw [HRES.out]
        exact ⟨none, 0, 0, rfl, rfl, fun k c hk => by simp at hk, hB⟩
      obtain ⟨i, rfl⟩ := Int.eq_ofNat_of_zero_le (Int.not_lt.1 hzn)
      by_cases hzi : i < nl
      · have hzi' : (i : Int) < (nl : Int) := by omega
        have hlc : l[i]? = some (l[i]'(by rw [HLl.out]; exact hzi)) := List.getElem?_eq_getElem _
        generalize l[i]'(by rw [HLl.out]; exact hzi) = d at hlc
        obtain ⟨lb, loff, hA, hlb, hcc⟩ := (HL.out.below hB (Nat.le_refl _)) i _ hlc
        subst hA
        have hc0 : wr.cell? ⟨lb, loff + i * 8, none⟩ = some (.int .i64 d.kind) := hcc 0 _ rfl
        have hc3 : wr.cell? ⟨lb, loff + i * 8 + 3, none⟩ = some (.int .i64 d.tk) := hcc 3 _ rfl
        have hc4 : wr.cell? ⟨lb, loff + i * 8 + 3 + 1, none⟩ = some (.int .i64 d.tl) := hcc 4 _ rfl
        have hc5 : wr.cell? ⟨lb, loff + i * 8 + 3 + 2, none⟩ = some (.string d.tr) := hcc 5 _ rfl
        have hc6 : wr.cell? ⟨lb, loff + i * 8 + 6, none⟩ = some (.int .i64 d.at_) := hcc 6 _ rfl
        have hc7 : wr.cell? ⟨lb, loff + i * 8 + 7, none⟩ = some (.int .i64 d.end_) := hcc 7 _ rfl
        have hdf : d.tl < 9223372036854775808 := HFIT.out d (List.mem_of_getElem? hlc)
        have hlbs : lb < wr.heap.size := by omega
        have hsn := expl_snoc HCZ.out hlc
        rw [HRS.out] at hsn
        have hin2 : ∀ z ∈ ch.take (q + 1), inL nl z = true := by
          intro z hz
          rw [List.take_add_one, HCZ.out] at hz
          simp at hz
          rcases hz with hz | rfl
          · exact HIN.out z hz
          · unfold inL; simp; omega
        have HSN := Lib.hid hsn
        have HIN2 := Lib.hid hin2
        clear hsn hin2 hcc hlc
        have hKS : ∀ w' : World, Below wr.heap.size wr w' → w'.cell? ⟨lb, loff + i * 8, none⟩ = some (.int .i64 d.kind) ∧ w'.cell? ⟨lb, loff + i * 8 + 6, none⟩ = some (.int .i64 d.at_) ∧ w'.cell? ⟨lb, loff + i * 8 + 7, none⟩ = some (.int .i64 d.end_) := fun w' hb => ⟨(hb.cell (p := ⟨lb, _, none⟩) hlbs).trans hc0, (hb.cell (p := ⟨lb, _, none⟩) hlbs).trans hc6, (hb.cell (p := ⟨lb, _, none⟩) hlbs).trans hc7⟩
        have HKS := Lib.hid hKS
        have hBd : Below wr.heap.size wr wr.drew := (Below.refl _ _).drew
        clear hKS
        go_wp2_with fail
        go_region_held3 (fun w' => w'.cell? ⟨lb, loff + i * 8, none⟩ = some (.int .i64 d.kind) ∧ w'.cell? ⟨lb, loff + i * 8 + 6, none⟩ = some (.int .i64 d.at_) ∧ w'.cell? ⟨lb, loff + i * 8 + 7, none⟩ = some (.int .i64 d.end_)) ((refine HKS.out _ ?_; (repeat (first | exact Below.refl _ _ | assumption | refine Below.trans ?_ (Below.mono (by assumption) (by first | omega | (simp; done) | (simp; omega))) | refine Below.alloc ?_ (by first | omega | (simp; done) | (simp; omega)) _ | refine Below.setCell ?_ (by first | omega | (simp; done) | (simp; omega)) _ | refine Below.drew ?_ | refine below_drewN ?_ _)))) (fail)
        obtain ⟨A5, c5, hv5, hc5a, hc5b⟩ := HO.out.shape
        subst hv5
        clear HKS hc5a hc5b
        by_cases hkd : d.kind = 0
        · have hst : stepOf d = ⟨d.kind, d.at_, d.end_, fmtB d.tk d.tl d.tr⟩ := by unfold stepOf; rw [if_pos hkd]
          have HST := Lib.hid hst
          have hkb : (d.kind == 0) = true := by simp [hkd]
          clear hst hkd
          go_wp2_with fail
          refine (Format_any d.tk d.tl d.tr hdf _).mono ?_
          rintro e w7 ⟨rfl, hb7⟩
          obtain ⟨hc7, hf7⟩ := bcell hb7
          have hz7 := hb7.size
          try simp at hz7
          go_wp2_with (at_builtin; go_must (refine wpList_append_S _ rfl (.tmp 49) (.tmp 51) _ rfl w.heap.size 65 i0 _ 4 40 Try.underlying43 hi0 hz0 hz1 hz2 rfl (.slice A5 q c5) q (rs.flatMap stCells) rfl (HO.out.below (B := wr.heap.size) (by (repeat (first | exact Below.refl _ _ | assumption | refine Below.trans ?_ (Below.mono (by assumption) (by first | omega | (simp; done) | (simp; omega))) | refine Below.alloc ?_ (by first | omega | (simp; done) | (simp; omega)) _ | refine Below.setCell ?_ (by first | omega | (simp; done) | (simp; omega)) _ | refine Below.drew ?_ | refine below_drewN ?_ _))) (fun g hg => (HO.out.lt g hg).2)) ⟨w7.heap.size, 0, none⟩ 1 1 (stCells (stepOf d)) rfl rfl (by rw [HST.out]; exact news_four _ _ _ _ _ _ (by go_simp) (by go_simp) (by go_simp) (by go_simp)) (by simp [stCells, Value.oneCell']) (by simp only [maxLen]; omega) (by omega) (by simp; omega) ?_); intro v1 w5 hown5 hgrow5 hat5)
          have hBa : Below wr.heap.size wr ((w7.setCell ⟨wr.heap.size, 3, none⟩ (.string (fmtB d.tk d.tl d.tr))).alloc (.cells #[.int .i64 d.kind, .int .i64 d.at_, .int .i64 d.end_, .string (fmtB d.tk d.tl d.tr)] 65)) := by (repeat (first | exact Below.refl _ _ | assumption | refine Below.trans ?_ (Below.mono (by assumption) (by first | omega | (simp; done) | (simp; omega))) | refine Below.alloc ?_ (by first | omega | (simp; done) | (simp; omega)) _ | refine Below.setCell ?_ (by first | omega | (simp; done) | (simp; omega)) _ | refine Below.drew ?_ | refine below_drewN ?_ _))
          have hOl := fun g hg => (HO.out.lt g hg)
          go_roundg (gk - 1)
          case measure => have := HQ.out; omega
          case rel =>
            refine ⟨q + 1, by have := HQ.out; omega, by go_num, HIN2.out, ?_, ?_, ?_⟩
            · rw [HSN.out, List.length_append, HQL.out, List.flatMap_append]
              simpa using hown5
            · rw [HSN.out, List.length_append, HQL.out]; rfl
            · exact (((Since.refl (fun g => w.heap.size ≤ g) wr).below hBa).grown hgrow5 (fun g hg => .inl (hOl g hg).1)).toBelow hBs (fun _ h => h) |> fun h => hB.trans h
        · have hst : stepOf d = ⟨d.kind, d.at_, d.end_, ⟨#[]⟩⟩ := by unfold stepOf; rw [if_neg hkd]
          have HST := Lib.hid hst
          have hkb : (d.kind == 0) = false := by simpa using hkd
          clear hst hkd
          go_wp2_with (at_builtin; go_must (refine wpList_append_S _ rfl (.tmp 49) (.tmp 51) _ rfl w.heap.size 65 i0 _ 4 40 Try.underlying43 hi0 hz0 hz1 hz2 rfl (.slice A5 q c5) q (rs.flatMap stCells) rfl (HO.out.below (B := wr.heap.size) (by (repeat (first | exact Below.refl _ _ | assumption | refine Below.trans ?_ (Below.mono (by assumption) (by first | omega | (simp; done) | (simp; omega))) | refine Below.alloc ?_ (by first | omega | (simp; done) | (simp; omega)) _ | refine Below.setCell ?_ (by first | omega | (simp; done) | (simp; omega)) _ | refine Below.drew ?_ | refine below_drewN ?_ _))) (fun g hg => (HO.out.lt g hg).2)) ⟨wr.heap.size + 1, 0, none⟩ 1 1 (stCells (stepOf d)) rfl rfl (by rw [HST.out]; exact news_four _ _ _ _ _ _ (by go_simp) (by go_simp) (by go_simp) (by go_simp)) (by simp [stCells, Value.oneCell']) (by simp only [maxLen]; omega) (by omega) (by simp; omega) ?_); intro v1 w5 hown5 hgrow5 hat5)
          have hBa : Below wr.heap.size wr ((wr.drew.alloc (.cells #[.int .i64 d.kind, .int .i64 d.at_, .int .i64 d.end_, .string ⟨#[]⟩] 65)).alloc (.cells #[.int .i64 d.kind, .int .i64 d.at_, .int .i64 d.end_, .string ⟨#[]⟩] 65)) := by (repeat (first | exact Below.refl _ _ | assumption | refine Below.trans ?_ (Below.mono (by assumption) (by first | omega | (simp; done) | (simp; omega))) | refine Below.alloc ?_ (by first | omega | (simp; done) | (simp; omega)) _ | refine Below.setCell ?_ (by first | omega | (simp; done) | (simp; omega)) _ | refine Below.drew ?_ | refine below_drewN ?_ _))
          have hOl := fun g hg => (HO.out.lt g hg)
          go_roundg (gk - 1)
          case measure => have := HQ.out; omega
          case rel =>
            refine ⟨q + 1, by have := HQ.out; omega, by go_num, HIN2.out, ?_, ?_, ?_⟩
            · rw [HSN.out, List.length_append, HQL.out, List.flatMap_append]
              simpa using hown5
            · rw [HSN.out, List.length_append, HQL.out]; rfl
            · exact (((Since.refl (fun g => w.heap.size ≤ g) wr).below hBa).grown hgrow5 (fun g hg => .inl (hOl g hg).1)).toBelow hBs (fun _ h => h) |> fun h => hB.trans h
      · have hzi' : ¬ (i : Int) < (nl : Int) := by omega
        have hres := expl_not HLl.out HCZ.out (z := (i : Int)) (by unfold inL; simp; omega)
        have HRES := Lib.hid hres
        clear hres
        go_wp2_with fail
        go_ret
        rw [HRES.out]
        exact ⟨none, 0, 0, rfl, rfl, fun k c hk => by simp at hk, hB⟩
    · have hqm : m = q := by omega
      subst hqm
      have htk : ch.take m = ch := List.take_of_length_le (by rw [HCL.out]; exact Nat.le_refl _)
      have hres : explM l ch = rs := by
        rw [← HRS.out, htk]
        exact expl_all HLl.out (by rw [← htk]; exact HIN.out)
      have HRES := Lib.hid hres
      obtain ⟨A5, c5, hv5, -, -⟩ := HO.out.shape
      subst hv5
      clear hres htk
      go_wp2_with fail
      go_ret
      rw [HRES.out]
      exact ⟨A5, m, c5, rfl, HQL.out, rowSt HO.out HQL.out, hB⟩

set_option maxHeartbeats 2000000 in
set_option maxRecDepth 100000 in
theorem ExplainR_any (AL : Option Addr) (nl cL : Nat) (l : List Con) (AC : Option Addr) (m cC : Nat) (ch : List Int) (w : World) (hL : RowAt 8 conCells w w.heap.size AL l) (hl : l.length = nl) (hC : RowAt 1 (fun z => [Value.int .i64 z]) w w.heap.size AC ch) (hcl : ch.length = m) (hm : m ≤ 1000) (hfit : ∀ c ∈ l, c.tl < 9223372036854775808) :
    Calls Try.prog 21 #[.slice AL nl cL, .slice AC m cC] w (ExplRes w (explM l ch)) := by
  obtain ⟨i0, hi0, hz0, hz1, hz2⟩ := info_parts step_info
  have HL := Lib.hid hL
  have HLl := Lib.hid hl
  have HC := Lib.hid hC
  have HCL := Lib.hid hcl
  have HFIT := Lib.hid hfit
  clear hL hl hC hcl hfit
  go_enter Try.func21, Try.ntmps21
  go_wp2_with fail
  go_loopg [5, 6] m (fun gk s5 s6 wr => ∃ q : Nat, q + gk = m ∧ s6 = .int .i64 q ∧ (∀ z ∈ ch.take q, inL nl z = true) ∧ OwnS wr w.heap.size 65 4 s5 ((ch.take q).flatMap (stepAt l)).length (((ch.take q).flatMap (stepAt l)).flatMap stCells) ∧ ((ch.take q).flatMap (stepAt l)).length = q ∧ Below w.heap.size w wr)
  case atStart => exact ⟨0, by omega, rfl, by simp, OwnS.block (n := 0) (cur := #[]) (Nat.le_refl _) (Blk.new w 65 #[]) (by simp [maxLen]) rfl, by simp, by (repeat (first | exact Below.refl _ _ | assumption | refine Below.trans ?_ (Below.mono (by assumption) (by first | omega | (simp; done) | (simp; omega))) | refine Below.alloc ?_ (by first | omega | (simp; done) | (simp; omega)) _ | refine Below.setCell ?_ (by first | omega | (simp; done) | (simp; omega)) _ | refine Below.drew ?_ | refine below_drewN ?_ _))⟩
  case round =>
    obtain ⟨q, hq, rfl, hin, hO, hql, hB⟩ := hrel
    have hq' : q ≤ m := by omega
    rw [hql] at hO
    generalize hrs : (ch.take q).flatMap (stepAt l) = rs at *
    have HQ := Lib.hid hq
    have HIN := Lib.hid hin
    have HO := Lib.hid hO
    have HQL := Lib.hid hql
    have HRS := Lib.hid hrs
    clear hq hin hO hql hrs
    have hBs := hB.size
    by_cases hlt : q < m
    · have hcz : ch[q]? = some (ch[q]'(by rw [HCL.out]; exact hlt)) := List.getElem?_eq_getElem _
      generalize ch[q]'(by rw [HCL.out]; exact hlt) = z at hcz
      obtain ⟨b2, o2, hA2, hb2, hc2⟩ := (HC.out.below hB (Nat.le_refl _)) q _ hcz
      subst hA2
      have hx : wr.cell? ⟨b2, o2 + q, none⟩ = some (.int .i64 z) := by simpa using hc2 0 _ rfl
      have hqi : (q : Int) < (m : Int) := by omega
      have HCZ := Lib.hid hcz
      clear hc2 hcz
      by_cases hzn : z < 0
      · have hres := expl_not HLl.out HCZ.out (z := z) (by unfold inL; simp; omega)
        have HRES := Lib.hid hres
        clear hres
        go_wp2_with fail
        go_ret
        rw [HRES.out]
        exact ⟨none, 0, 0, rfl, rfl, fun k c hk => by simp at hk, hB⟩
      obtain ⟨i, rfl⟩ := Int.eq_ofNat_of_zero_le (Int.not_lt.1 hzn)
      by_cases hzi : i < nl
      · have hzi' : (i : Int) < (nl : Int) := by omega
        have hlc : l[i]? = some (l[i]'(by rw [HLl.out]; exact hzi)) := List.getElem?_eq_getElem _
        generalize l[i]'(by rw [HLl.out]; exact hzi) = d at hlc
        obtain ⟨lb, loff, hA, hlb, hcc⟩ := (HL.out.below hB (Nat.le_refl _)) i _ hlc
        subst hA
        have hc0 : wr.cell? ⟨lb, loff + i * 8, none⟩ = some (.int .i64 d.kind) := hcc 0 _ rfl
        have hc1 : wr.cell? ⟨lb, loff + i * 8 + 1, none⟩ = some (.int .i64 d.a) := hcc 1 _ rfl
        have hc2 : wr.cell? ⟨lb, loff + i * 8 + 2, none⟩ = some (.int .i64 d.b) := hcc 2 _ rfl
        have hc3 : wr.cell? ⟨lb, loff + i * 8 + 3, none⟩ = some (.int .i64 d.tk) := hcc 3 _ rfl
        have hc4 : wr.cell? ⟨lb, loff + i * 8 + 3 + 1, none⟩ = some (.int .i64 d.tl) := hcc 4 _ rfl
        have hc5 : wr.cell? ⟨lb, loff + i * 8 + 3 + 2, none⟩ = some (.string d.tr) := hcc 5 _ rfl
        have hc6 : wr.cell? ⟨lb, loff + i * 8 + 6, none⟩ = some (.int .i64 d.at_) := hcc 6 _ rfl
        have hc7 : wr.cell? ⟨lb, loff + i * 8 + 7, none⟩ = some (.int .i64 d.end_) := hcc 7 _ rfl
        have hdf : d.tl < 9223372036854775808 := HFIT.out d (List.mem_of_getElem? hlc)
        have hlbs : lb < wr.heap.size := by omega
        have hsn := expl_snoc HCZ.out hlc
        rw [HRS.out] at hsn
        have hin2 : ∀ z ∈ ch.take (q + 1), inL nl z = true := by
          intro z hz
          rw [List.take_add_one, HCZ.out] at hz
          simp at hz
          rcases hz with hz | rfl
          · exact HIN.out z hz
          · unfold inL; simp; omega
        have HSN := Lib.hid hsn
        have HIN2 := Lib.hid hin2
        clear hsn hin2 hcc hlc
        obtain ⟨A5, c5, hv5, hc5a, hc5b⟩ := HO.out.shape
        subst hv5
        clear hc5a hc5b
        by_cases hkd : d.kind = 0
        · have hst : stepOf d = ⟨d.kind, d.at_, d.end_, fmtB d.tk d.tl d.tr⟩ := by unfold stepOf; rw [if_pos hkd]
          have HST := Lib.hid hst
          have hkb : (d.kind == 0) = true := by simp [hkd]
          clear hst hkd
          go_wp2_with fail
          refine (FormatR_any d.tk d.tl d.tr hdf _).mono ?_
          rintro e w7 ⟨rfl, hb7⟩
          obtain ⟨hc7, hf7⟩ := bcell hb7
          have hz7 := hb7.size
          try simp at hz7
          go_wp2_with (at_builtin; go_must (refine wpList_append_S _ rfl (.tmp 51) (.tmp 53) _ rfl w.heap.size 65 i0 _ 4 40 Try.underlying43 hi0 hz0 hz1 hz2 rfl (.slice A5 q c5) q (rs.flatMap stCells) rfl (HO.out.below (B := wr.heap.size) (by (repeat (first | exact Below.refl _ _ | assumption | refine Below.trans ?_ (Below.mono (by assumption) (by first | omega | (simp; done) | (simp; omega))) | refine Below.alloc ?_ (by first | omega | (simp; done) | (simp; omega)) _ | refine Below.setCell ?_ (by first | omega | (simp; done) | (simp; omega)) _ | refine Below.drew ?_ | refine below_drewN ?_ _))) (fun g hg => (HO.out.lt g hg).2)) ⟨w7.heap.size, 0, none⟩ 1 1 (stCells (stepOf d)) rfl rfl (by rw [HST.out]; exact news_four _ _ _ _ _ _ (by go_simp) (by go_simp) (by go_simp) (by go_simp)) (by simp [stCells, Value.oneCell']) (by simp only [maxLen]; omega) (by omega) (by simp; omega) ?_); intro v1 w5 hown5 hgrow5 hat5)
          have hBa : Below wr.heap.size wr ((w7.setCell ⟨wr.heap.size + 1, 3, none⟩ (.string (fmtB d.tk d.tl d.tr))).alloc (.cells #[.int .i64 d.kind, .int .i64 d.at_, .int .i64 d.end_, .string (fmtB d.tk d.tl d.tr)] 65)) := by (repeat (first | exact Below.refl _ _ | assumption | refine Below.trans ?_ (Below.mono (by assumption) (by first | omega | (simp; done) | (simp; omega))) | refine Below.alloc ?_ (by first | omega | (simp; done) | (simp; omega)) _ | refine Below.setCell ?_ (by first | omega | (simp; done) | (simp; omega)) _ | refine Below.drew ?_ | refine below_drewN ?_ _))
          have hOl := fun g hg => (HO.out.lt g hg)
          go_roundg (gk - 1)
          case measure => have := HQ.out; omega
          case rel =>
            refine ⟨q + 1, by have := HQ.out; omega, by go_num, HIN2.out, ?_, ?_, ?_⟩
            · rw [HSN.out, List.length_append, HQL.out, List.flatMap_append]
              simpa using hown5
            · rw [HSN.out, List.length_append, HQL.out]; rfl
            · exact (((Since.refl (fun g => w.heap.size ≤ g) wr).below hBa).grown hgrow5 (fun g hg => .inl (hOl g hg).1)).toBelow hBs (fun _ h => h) |> fun h => hB.trans h
        · have hst : stepOf d = ⟨d.kind, d.at_, d.end_, ⟨#[]⟩⟩ := by unfold stepOf; rw [if_neg hkd]
          have HST := Lib.hid hst
          have hkb : (d.kind == 0) = false := by simpa using hkd
          clear hst hkd
          go_wp2_with (at_builtin; go_must (refine wpList_append_S _ rfl (.tmp 51) (.tmp 53) _ rfl w.heap.size 65 i0 _ 4 40 Try.underlying43 hi0 hz0 hz1 hz2 rfl (.slice A5 q c5) q (rs.flatMap stCells) rfl (HO.out.below (B := wr.heap.size) (by (repeat (first | exact Below.refl _ _ | assumption | refine Below.trans ?_ (Below.mono (by assumption) (by first | omega | (simp; done) | (simp; omega))) | refine Below.alloc ?_ (by first | omega | (simp; done) | (simp; omega)) _ | refine Below.setCell ?_ (by first | omega | (simp; done) | (simp; omega)) _ | refine Below.drew ?_ | refine below_drewN ?_ _))) (fun g hg => (HO.out.lt g hg).2)) ⟨wr.heap.size + 1 + 1, 0, none⟩ 1 1 (stCells (stepOf d)) rfl rfl (by rw [HST.out]; exact news_four _ _ _ _ _ _ (by go_simp) (by go_simp) (by go_simp) (by go_simp)) (by simp [stCells, Value.oneCell']) (by simp only [maxLen]; omega) (by omega) (by simp; omega) ?_); intro v1 w5 hown5 hgrow5 hat5)
          have hBa : Below wr.heap.size wr (((wr.alloc (.cells #[.int .i64 d.kind, .int .i64 d.a, .int .i64 d.b, .int .i64 d.tk, .int .i64 d.tl, .string d.tr, .int .i64 d.at_, .int .i64 d.end_] 36)).alloc (.cells #[.int .i64 d.kind, .int .i64 d.at_, .int .i64 d.end_, .string ⟨#[]⟩] 65)).alloc (.cells #[.int .i64 d.kind, .int .i64 d.at_, .int .i64 d.end_, .string ⟨#[]⟩] 65)) := by (repeat (first | exact Below.refl _ _ | assumption | refine Below.trans ?_ (Below.mono (by assumption) (by first | omega | (simp; done) | (simp; omega))) | refine Below.alloc ?_ (by first | omega | (simp; done) | (simp; omega)) _ | refine Below.setCell ?_ (by first | omega | (simp; done) | (simp; omega)) _ | refine Below.drew ?_ | refine below_drewN ?_ _))
          have hOl := fun g hg => (HO.out.lt g hg)
          go_roundg (gk - 1)
          case measure => have := HQ.out; omega
          case rel =>
            refine ⟨q + 1, by have := HQ.out; omega, by go_num, HIN2.out, ?_, ?_, ?_⟩
            · rw [HSN.out, List.length_append, HQL.out, List.flatMap_append]
              simpa using hown5
            · rw [HSN.out, List.length_append, HQL.out]; rfl
            · exact (((Since.refl (fun g => w.heap.size ≤ g) wr).below hBa).grown hgrow5 (fun g hg => .inl (hOl g hg).1)).toBelow hBs (fun _ h => h) |> fun h => hB.trans h
      · have hzi' : ¬ (i : Int) < (nl : Int) := by omega
        have hres := expl_not HLl.out HCZ.out (z := (i : Int)) (by unfold inL; simp; omega)
        have HRES := Lib.hid hres
        clear hres
        go_wp2_with fail
        go_ret
        rw [HRES.out]
        exact ⟨none, 0, 0, rfl, rfl, fun k c hk => by simp at hk, hB⟩
    · have hqm : m = q := by omega
      subst hqm
      have htk : ch.take m = ch := List.take_of_length_le (by rw [HCL.out]; exact Nat.le_refl _)
      have hres : explM l ch = rs := by
        rw [← HRS.out, htk]
        exact expl_all HLl.out (by rw [← htk]; exact HIN.out)
      have HRES := Lib.hid hres
      obtain ⟨A5, c5, hv5, -, -⟩ := HO.out.shape
      subst hv5
      clear hres htk
      go_wp2_with fail
      go_ret
      rw [HRES.out]
      exact ⟨A5, m, c5, rfl, HQL.out, rowSt HO.out HQL.out, hB⟩

def eqSt (a b : St) : Bool := decide (a.k = b.k) && (decide (a.at_ = b.at_) && (decide (a.end_ = b.end_) && decide (a.t.toList = b.t.toList)))

theorem run_neSt (a b : St) (w : World) :
    (binOp .neq 65 (.agg #[.int .i64 a.k, .int .i64 a.at_, .int .i64 a.end_, .string a.t]) (.agg #[.int .i64 b.k, .int .i64 b.at_, .int .i64 b.end_, .string b.t])).run Try.prog w = .ok (.bool (!eqSt a b)) w := by
  by_cases h1 : a.k = b.k <;> by_cases h2 : a.at_ = b.at_ <;> by_cases h3 : a.end_ = b.end_ <;> by_cases h4 : a.t.toList = b.t.toList <;> (simp only [eqSt]; go_simp)

theorem run_neSt_self (a : St) (w : World) :
    (binOp .neq 65 (.agg #[.int .i64 a.k, .int .i64 a.at_, .int .i64 a.end_, .string a.t]) (.agg #[.int .i64 a.k, .int .i64 a.at_, .int .i64 a.end_, .string a.t])).run Try.prog w = .ok (.bool false) w := by
  rw [run_neSt]
  simp [eqSt]

set_option maxHeartbeats 1000000 in
theorem Steps_eq (A1 A2 : Option Addr) (n1 n2 c1 c2 : Nat) (l : List St) (w : World) (h1 : RowAt 4 stCells w w.heap.size A1 l) (h2 : RowAt 4 stCells w w.heap.size A2 l) (hl1 : l.length = n1) (hl2 : l.length = n2) (hn : n1 ≤ 1000000) :
    Calls Try.prog 19 #[.slice A1 n1 c1, .slice A2 n2 c2] w fun e w' => e = .returned (.bool true) ∧ Below w.heap.size w w' := by
  have hne : n1 = n2 := by rw [← hl1, hl2]
  subst hne
  have hnt := run_neSt_self
  have HNT := Lib.hid hnt
  have H1 := Lib.hid h1
  have H2 := Lib.hid h2
  have HL1 := Lib.hid hl1
  clear h1 h2 hl1 hl2 hnt
  go_enter Try.func19, Try.ntmps19
  go_wp2_with fail
  go_loopg [5] n1 (fun gk s wr => ∃ k : Nat, k + gk = n1 ∧ s = .int .i64 k ∧ Below w.heap.size w wr)
  case atStart => exact ⟨0, by omega, rfl, Below.refl _ _⟩
  case round =>
    obtain ⟨k, hk, rfl, hB⟩ := hrel
    have hk' : k ≤ n1 := by omega
    have HK := Lib.hid hk
    clear hk
    by_cases hlt : k < n1
    · have e1 : l[k]? = some (l[k]'(by rw [HL1.out]; exact hlt)) := List.getElem?_eq_getElem _
      generalize l[k]'(by rw [HL1.out]; exact hlt) = x at e1
      obtain ⟨b1, o1, hA1, hb1, hc1⟩ := (H1.out.below hB (Nat.le_refl _)) k _ e1
      obtain ⟨b2, o2, hA2, hb2, hc2⟩ := (H2.out.below hB (Nat.le_refl _)) k _ e1
      subst hA1
      subst hA2
      have hx0 : wr.cell? ⟨b1, o1 + k * 4, none⟩ = some (.int .i64 x.k) := hc1 0 _ rfl
      have hx1 : wr.cell? ⟨b1, o1 + k * 4 + 1, none⟩ = some (.int .i64 x.at_) := hc1 1 _ rfl
      have hx2 : wr.cell? ⟨b1, o1 + k * 4 + 2, none⟩ = some (.int .i64 x.end_) := hc1 2 _ rfl
      have hx3 : wr.cell? ⟨b1, o1 + k * 4 + 3, none⟩ = some (.string x.t) := hc1 3 _ rfl
      have hy0 : wr.cell? ⟨b2, o2 + k * 4, none⟩ = some (.int .i64 x.k) := hc2 0 _ rfl
      have hy1 : wr.cell? ⟨b2, o2 + k * 4 + 1, none⟩ = some (.int .i64 x.at_) := hc2 1 _ rfl
      have hy2 : wr.cell? ⟨b2, o2 + k * 4 + 2, none⟩ = some (.int .i64 x.end_) := hc2 2 _ rfl
      have hy3 : wr.cell? ⟨b2, o2 + k * 4 + 3, none⟩ = some (.string x.t) := hc2 3 _ rfl
      have hq := HNT.out x
      have hkn : (k : Int) < (n1 : Int) := by omega
      clear hc1 hc2 e1
      go_wp2_with fail
      go_quiet (fail)
      go_wp2_with fail
      go_roundg (gk - 1)
      case measure => have := HK.out; omega
      case rel => exact ⟨k + 1, by have := HK.out; omega, by go_num, by (repeat (first | exact Below.refl _ _ | assumption | refine Below.trans ?_ (Below.mono (by assumption) (by first | omega | (simp; done) | (simp; omega))) | refine Below.alloc ?_ (by first | omega | (simp; done) | (simp; omega)) _ | refine Below.setCell ?_ (by first | omega | (simp; done) | (simp; omega)) _ | refine Below.drew ?_ | refine below_drewN ?_ _))⟩
    · go_wp2_with fail
      go_ret
      exact ⟨rfl, by (repeat (first | exact Below.refl _ _ | assumption | refine Below.trans ?_ (Below.mono (by assumption) (by first | omega | (simp; done) | (simp; omega))) | refine Below.alloc ?_ (by first | omega | (simp; done) | (simp; omega)) _ | refine Below.setCell ?_ (by first | omega | (simp; done) | (simp; omega)) _ | refine Below.drew ?_ | refine below_drewN ?_ _))⟩

end Go.Proofs.Ytpdimehoepfgaaa
