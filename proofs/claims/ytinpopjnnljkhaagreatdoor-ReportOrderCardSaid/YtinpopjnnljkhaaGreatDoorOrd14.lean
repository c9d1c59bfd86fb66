/- ReportOrder: the law returns true for every source and every diagnostics. Part 14 of 17. -/
import Derived.Test.YtinpopjnnljkhaaGreatDoorOrd13
import Derived.Test.YtinpopjnnljkhaaGreatDoorRows
import Derived.ProofKit
import Derived.Below
import Derived.ChangeSame
import Derived.Lib.SmallJoins
import Derived.Deep.Slices
/- The row of a law: whatever the input the call returns true, and what was there is as it was. -/
namespace Go.Proofs.YtinpopjnnljkhaaGreatDoor
open Go.ChangeShapes Go.WideShapes Go.ChangeAt Go.RowKit

theorem Tryz.own : ownKnob Tryz.prog.godebug = none := by kernel_rfl
theorem Tryz.laidOut : laidOutB Tryz.prog = true := by kernel_rfl

section
variable {H : Type} {enc : TypeId × Value → H} {P : Program}

theorem trodAll_stays (hl : laidOutB P = true) {W W' : World} (hb : Below W.heap.size W W') (sp : Nat → Bool) : ∀ {ts : List TypeId} {vs : List Value} {ds : List (DataW H)} {ps : List MemPlace},
    ts.all (fun t => P.readableRec t && decide (t < P.types.size)) = true → DataW.TrodAll enc P W 0 (fun _ => true) true ts vs ds ps → (∀ x ∈ ps, x.block < W.heap.size) → (∀ x ∈ ps, sp x.block = true) →
    DataW.TrodAll enc P W' 0 sp true ts vs ds ps := by
  intro ts
  induction ts with
  | nil =>
    intro vs ds ps _ h _ _
    cases vs <;> cases ds <;> simp [DataW.TrodAll] at h ⊢
    exact h
  | cons t ts ih =>
    intro vs ds ps hr h hlt hsp
    obtain ⟨v, vs', d, ds', p, q, rfl, rfl, rfl, hd, hrest⟩ := trodAll_cons h
    rw [List.all_cons, Bool.and_eq_true, Bool.and_eq_true] at hr
    refine ⟨p, q, ?_, ih hr.2 hrest (fun x hx => hlt x (by simp [hx])) (fun x hx => hsp x (by simp [hx])), rfl⟩
    exact WideElems.Trod_stays hl hr.1.1 (of_decide_eq_true hr.1.2) hd (fun x hx => hb.same (hlt x (by simp [hx]))) (fun x hx => hsp x (by simp [hx]))

/-- The post of a law without variables, where nothing that was there has turned. -/
theorem law_post (hl : laidOutB P = true) {f : Func} {s : ChangeSpec} {apart fresh handsOn again : Bool} {W W' : World} {args : Array Value} {ds gs : List (DataW H)} {before : List MemPlace} {tb : TypeId}
    (hW : DataW.Whole enc P f.params.toList s.vars apart W args.toList ds gs before) (hv : s.vars = [])
    (hread : f.params.toList.all (fun t => P.readableRec t && decide (t < P.types.size)) = true)
    (hfn : s.fn H (ds ++ gs) = { results := [.lit (.bool true)], args := ds }) (hr : f.resultTypes = #[tb]) (htb : P.underlying tb = some .bool) (hb : Below W.heap.size W W') :
    s.post enc P f apart fresh handsOn again W args (.bool true) W' := by
  have hlt : ∀ p ∈ before, p.block < W.heap.size := fun p hp => hW.lt p hp
  have hW0 := hW
  obtain ⟨p, q, hA, hV, hpq, hz, hn⟩ := hW
  rw [hv] at hV
  obtain ⟨hgs, hq⟩ := trodVars_none hV
  subst hq
  rw [List.append_nil] at hpq
  subst hpq
  have hres : ∀ (b : Nat) (sp : Nat → Bool) (hd : Bool), DataW.TrodAll enc P W' b sp hd f.resultTypes.toList ((Value.bool true).resultList f.resultTypes.size) (s.fn H (ds ++ gs)).results [] := fun b sp hd => by
    rw [hfn, hr]
    exact trodAll_mk1 (shut_bool htb true)
  have hargs : ∀ sp : Nat → Bool, (∀ x ∈ before, sp x.block = true) → DataW.TrodAll enc P W' 0 sp true f.params.toList args.toList (s.fn H (ds ++ gs)).args before := fun sp hsp => by
    rw [hfn]
    exact trodAll_stays hl hb sp hread hA hlt hsp
  have hvars : ∀ sp : Nat → Bool, DataW.TrodVars enc P W' sp s.vars (s.fn H (ds ++ gs)).vars [] := fun sp => by
    rw [hfn, hv]
    rfl
  have hold : ∀ x ∈ before, (fun b => decide (b < W.heap.size)) x.block = true := fun x hx => by simpa using hlt x hx
  refine ⟨ds, gs, before, [], before, [], hW0, hres _ _ _, hargs _ hold, hvars _, World.keptBut_mono (fun x hx => ⟨hx, Or.inr (by simpa using hx)⟩) (hb.frame (· ∈ before)), fun _ => ?_⟩
  refine ⟨ok_one hr rfl (okWide_bool_mk htb true), _, _, ([] ++ before) ++ [], ⟨[] ++ before, [], trodAll_append (hargs _ (fun _ _ => rfl)) (hres _ _ _), hvars _, rfl, ?_, ?_⟩, ?_⟩
  · intro b off hp
    have hin : MemPlace.cell b off ∈ before := by simpa using hp
    rw [hb.frozen (hlt _ hin)]
    exact hz b off hin
  · intro ha
    simpa using hn ha
  · intro x hx _
    simpa using hx
end

end Go.Proofs.YtinpopjnnljkhaaGreatDoor
/- Arguments that came in: a slice of pairs of ints. -/
namespace Go.Proofs.YtinpopjnnljkhaaGreatDoor
open Go.ChangeShapes Go.WideShapes Go.ChangeAt Go.RowKit Go.Deep

theorem list2 {α : Type} {l : List α} (h : l.length = 2) : ∃ a b, l = [a, b] := by
  match l, h with
  | [a, b], _ => exact ⟨a, b, rfl⟩
section
variable {H : Type} {enc : TypeId × Value → H} {w : World} {base : Nat}

theorem Tryz.cellsPair : Tryz.prog.cellsOf 79 = 2 := by kernel_rfl
theorem Tryz.cellsInt : Tryz.prog.cellsOf 3 = 1 := by kernel_rfl

theorem choose_list {α : Type} {p : Nat → α → Prop} : ∀ m : Nat, (∀ i, i < m → ∃ x, p i x) → ∃ l : List α, l.length = m ∧ ∀ i x, l[i]? = some x → p i x := by
  intro m
  induction m with
  | zero => intro _; exact ⟨[], rfl, fun i x h => by simp at h⟩
  | succ m ih =>
    intro h
    obtain ⟨l, hl, hp⟩ := ih (fun i hi => h i (by omega))
    obtain ⟨x, hx⟩ := h m (by omega)
    refine ⟨l ++ [x], by simp [hl], fun i y hy => ?_⟩
    by_cases hi : i < l.length
    · rw [List.getElem?_append_left hi] at hy
      exact hp i y hy
    · rw [List.getElem?_append_right (by omega)] at hy
      have hi0 : i - l.length = 0 := by
        rcases Nat.eq_zero_or_pos (i - l.length) with h0 | h0
        · exact h0
        · rw [List.getElem?_eq_none (by simp; omega)] at hy
          cases hy
      rw [hi0] at hy
      simp at hy
      subst hy
      have : i = m := by omega
      subst this
      exact hx

set_option maxRecDepth 100000 in
/-- A pair that came in. -/
theorem open_pair {fuel : Nat} {cs : List Value} {x : DataW H × List MemPlace} (h : DataW.trod enc Tryz.prog w base (fun _ => true) true fuel 79 cs = some x) :
    ∃ p : Int × Int, cs = [.int .i64 p.1, .int .i64 p.2] := by
  cases fuel with
  | zero => simp [DataW.trod] at h
  | succ n =>
    unfold DataW.trod at h
    rw [Tryz.underlying79] at h
    simp only at h
    split at h
    · rename_i hl
      rw [Tryz.cellsPair] at hl
      obtain ⟨c0, c1, rfl⟩ := list2 hl
      obtain ⟨xs, hp, hd⟩ := Option.map_eq_some_iff.1 h
      have g0 := mapM_some_get hp 0 0 (by rfl)
      have g1 := mapM_some_get hp 1 1 (by rfl)
      have hlen := mapM_some_length hp
      have some_of : ∀ j, j < 2 → ∃ y, xs[j]? = some y := fun j hj => ⟨_, List.getElem?_eq_getElem (by rw [hlen]; simpa using hj)⟩
      obtain ⟨y0, e0⟩ := some_of 0 (by omega)
      obtain ⟨y1, e1⟩ := some_of 1 (by omega)
      rw [e0] at g0
      rw [e1] at g1
      simp [Tryz.cellsInt] at g0 g1
      obtain ⟨a0, k0, -, -⟩ := DataW.trod_int Tryz.underlying3 g0
      obtain ⟨a1, k1, -, -⟩ := DataW.trod_int Tryz.underlying3 g1
      simp only [List.cons.injEq, and_true] at k0 k1
      subst k0 k1
      exact ⟨(a0, a1), rfl⟩
    · cases h

set_option maxRecDepth 100000 in
/-- A slice of pairs that came in. -/
theorem open_pairs {v : Value} {fuel : Nat} {x : DataW H × List MemPlace} (hf : DataW.trod enc Tryz.prog w base (fun _ => true) true fuel 22 [v] = some x) :
    ∃ (A : Option Addr) (n c : Nat) (ps : List (Int × Int)), v = .slice A n c ∧ ps.length = n ∧ n ≤ maxLen ∧ RowAt 2 pairCells w w.heap.size A ps := by
  rcases open_slice Tryz.underlying22 hf with ⟨hcs, _⟩ | ⟨a, len', cap', m, n, D, Pl, hcs, hb, hl, hm, hmm, hx, hi⟩
  · simp at hcs
    subst hcs
    exact ⟨none, 0, 0, [], rfl, rfl, by simp [maxLen], fun k c hk => by simp at hk⟩
  · simp at hcs
    subst hcs
    simp only [if_true] at hmm
    subst hmm
    rw [Tryz.cellsPair] at hi hx
    have hel : ∀ i, i < len' → ∃ p : Int × Int, w.cell? (a.add (i * 2)) = some (.int .i64 p.1) ∧ w.cell? (a.add (i * 2 + 1)) = some (.int .i64 p.2) := fun i hil => by
      obtain ⟨cs', hc, ht⟩ := hi i (by omega)
      obtain ⟨p, rfl⟩ := open_pair ht
      have hg := (World.cells?_some hc).2.2
      have g0 := hg 0 (by omega)
      have g1 := hg 1 (by omega)
      rw [Go.Deep.add_add] at g0 g1
      exact ⟨p, g0, g1⟩
    obtain ⟨l, hll, hlp⟩ := choose_list len' hel
    subst hll
    refine ⟨some a, l.length, m, l, rfl, rfl, by omega, fun k p hk => ?_⟩
    obtain ⟨h1, h2⟩ := hlp k p hk
    obtain ⟨b, off, spot⟩ := a
    have hspot : spot = none := by
      have hkl : k < l.length := (List.getElem?_eq_some_iff.1 hk).1
      obtain ⟨h0, -⟩ := hlp 0 (l[0]'(by omega)) (List.getElem?_eq_getElem (by omega))
      simpa [Addr.add] using World.cell?_spot h0
    subst hspot
    rw [Addr.add_lit] at h1 h2
    have hbl : b < w.heap.size := by
      rcases Nat.lt_or_ge b w.heap.size with h9 | h9
      · exact h9
      · simp [World.cell?, Array.getElem?_eq_none h9] at h1
    refine ⟨b, off, rfl, hbl, fun j u hj => ?_⟩
    match j, hj with
    | 0, hj =>
      simp [pairCells] at hj
      subst hj
      exact h1
    | 1, hj =>
      simp [pairCells] at hj
      subst hj
      rw [Nat.add_assoc]; exact h2
    | j + 2, hj => simp [pairCells] at hj
end
end Go.Proofs.YtinpopjnnljkhaaGreatDoor
/- Arguments that came in: a slice of diagnostics. -/
namespace Go.Proofs.YtinpopjnnljkhaaGreatDoor
open Go.ChangeShapes Go.WideShapes Go.ChangeAt Go.RowKit Go.Deep

theorem list4 {α : Type} {l : List α} (h : l.length = 4) : ∃ a b c d, l = [a, b, c, d] := by
  match l, h with
  | [a, b, c, d], _ => exact ⟨a, b, c, d, rfl⟩
theorem list5 {α : Type} {l : List α} (h : l.length = 5) : ∃ a b c d e, l = [a, b, c, d, e] := by
  match l, h with
  | [a, b, c, d, e], _ => exact ⟨a, b, c, d, e, rfl⟩
theorem okI_wf {n : Int} (h : (Lit.int .i64 n).wf = true) : okI n := by
  unfold okI
  simp [Lit.wf, IntKind.min, IntKind.max, IntKind.signed, IntKind.bits] at h
  omega
section
variable {H : Type} {enc : TypeId × Value → H} {w : World} {base : Nat}

theorem Tryz.cellsDg : Tryz.prog.cellsOf 35 = 5 := by kernel_rfl
theorem Tryz.cellsStep : Tryz.prog.cellsOf 83 = 4 := by kernel_rfl
theorem Tryz.cellsSteps : Tryz.prog.cellsOf 33 = 1 := by kernel_rfl
theorem Tryz.cellsString : Tryz.prog.cellsOf 9 = 1 := by kernel_rfl

set_option maxRecDepth 100000 in
/-- A step that came in. -/
theorem open_step {fuel : Nat} {cs : List Value} {x : DataW H × List MemPlace} (h : DataW.trod enc Tryz.prog w base (fun _ => true) true fuel 83 cs = some x) :
    ∃ p : Dstp, cs = stCells p ∧ p.text.size ≤ maxLen := by
  obtain ⟨xs, n, -, -, hl, hxl, hf⟩ := DataW.trod_struct Tryz.underlying83 h
  rw [Tryz.cellsStep] at hl
  obtain ⟨c0, c1, c2, c3, rfl⟩ := list4 hl
  have some_of : ∀ j, j < 4 → ∃ y, xs[j]? = some y := fun j hj => ⟨_, List.getElem?_eq_getElem (by rw [hxl]; exact hj)⟩
  have g0 := hf 0 _ rfl
  have g1 := hf 1 _ rfl
  have g2 := hf 2 _ rfl
  have g3 := hf 3 _ rfl
  obtain ⟨y0, e0⟩ := some_of 0 (by omega)
  obtain ⟨y1, e1⟩ := some_of 1 (by omega)
  obtain ⟨y2, e2⟩ := some_of 2 (by omega)
  obtain ⟨y3, e3⟩ := some_of 3 (by omega)
  rw [e0] at g0
  rw [e1] at g1
  rw [e2] at g2
  rw [e3] at g3
  simp [Tryz.cellsInt, Tryz.cellsString] at g0 g1 g2 g3
  obtain ⟨a0, k0, -, -⟩ := DataW.trod_int Tryz.underlying3 g0
  obtain ⟨a1, k1, -, -⟩ := DataW.trod_int Tryz.underlying3 g1
  obtain ⟨a2, k2, -, -⟩ := DataW.trod_int Tryz.underlying3 g2
  obtain ⟨a3, k3, -, h3⟩ := DataW.trod_string Tryz.underlying9 g3
  simp only [List.cons.injEq, and_true] at k0 k1 k2 k3
  subst k0 k1 k2 k3
  exact ⟨⟨a0, a1, a2, a3⟩, rfl, h3⟩

/-- A slice of rows that came in, element by element. -/
theorem open_rowsOf {α : Type} {cells : α → List Value} {te ts : TypeId} {k : Nat} (hk : 0 < k) (hu : Tryz.prog.underlying ts = some (.slice te)) (hce : Tryz.prog.cellsOf te = k) (hlen : ∀ x, (cells x).length = k) {Q : α → Prop}
    (hopen : ∀ {fuel : Nat} {cs : List Value} {x : DataW H × List MemPlace}, DataW.trod enc Tryz.prog w base (fun _ => true) true fuel te cs = some x → ∃ p : α, cs = cells p ∧ Q p)
    {v : Value} {fuel : Nat} {x : DataW H × List MemPlace} (hf : DataW.trod enc Tryz.prog w base (fun _ => true) true fuel ts [v] = some x) :
    ∃ (A : Option Addr) (n c : Nat) (ps : List α), v = .slice A n c ∧ ps.length = n ∧ n ≤ maxLen ∧ RowAt k cells w w.heap.size A ps ∧ ∀ p ∈ ps, Q p := by
  rcases open_slice hu hf with ⟨hcs, _⟩ | ⟨a, len', cap', m, n, D, Pl, hcs, hb, hl, hm, hmm, hx, hi⟩
  · simp at hcs
    subst hcs
    exact ⟨none, 0, 0, [], rfl, rfl, by simp [maxLen], fun k c hk => by simp at hk, by simp⟩
  · simp at hcs
    subst hcs
    simp only [if_true] at hmm
    subst hmm
    rw [hce] at hi hx
    have hel : ∀ i, i < len' → ∃ p : α, (∀ (j : Nat) (u : Value), (cells p)[j]? = some u → w.cell? (a.add (i * k + j)) = some u) ∧ Q p := fun i hil => by
      obtain ⟨cs', hc, ht⟩ := hi i (by omega)
      obtain ⟨p, rfl, hq⟩ := hopen ht
      have hg := (World.cells?_some hc).2.2
      refine ⟨p, fun j u hj => ?_, hq⟩
      have hjl : j < (cells p).length := (List.getElem?_eq_some_iff.1 hj).1
      have hjk : j < k := by rw [hlen] at hjl; exact hjl
      have g := hg j (by first | exact hjl | exact hjk)
      rw [Go.Deep.add_add] at g
      rw [g]
      first | exact hj | (rw [List.getElem?_eq_getElem hjl] at hj; exact hj)
    obtain ⟨l, hll, hlp⟩ := choose_list len' hel
    subst hll
    refine ⟨some a, l.length, m, l, rfl, rfl, by omega, fun i p hi' => ?_, fun p hp => ?_⟩
    · obtain ⟨h1, -⟩ := hlp i p hi'
      obtain ⟨b, off, spot⟩ := a
      have hnz : ∃ u0, (cells p)[0]? = some u0 := ⟨_, List.getElem?_eq_getElem (by rw [hlen]; exact hk)⟩
      obtain ⟨u0, hu0⟩ := hnz
      have h0 := h1 0 u0 hu0
      have hspot : spot = none := by
        have hil : i < l.length := (List.getElem?_eq_some_iff.1 hi').1
        obtain ⟨h00, -⟩ := hlp 0 (l[0]'(by omega)) (List.getElem?_eq_getElem (by omega))
        have h01 := h00 0 _ (List.getElem?_eq_getElem (by rw [hlen]; exact hk))
        simpa [Addr.add] using World.cell?_spot h01
      subst hspot
      have hbl : b < w.heap.size := by
        rcases Nat.lt_or_ge b w.heap.size with h9 | h9
        · exact h9
        · rw [Addr.add_lit] at h0
          simp [World.cell?, Array.getElem?_eq_none h9] at h0
      refine ⟨b, off, rfl, hbl, fun j u hj => ?_⟩
      have := h1 j u hj
      rw [Addr.add_lit, ← Nat.add_assoc] at this
      exact this
    · obtain ⟨i, hi', rfl⟩ := List.getElem_of_mem hp
      exact (hlp i _ (List.getElem?_eq_getElem hi')).2

/-- A chain of steps that came in. -/
theorem open_steps {v : Value} {fuel : Nat} {x : DataW H × List MemPlace} (hf : DataW.trod enc Tryz.prog w base (fun _ => true) true fuel 33 [v] = some x) :
    ∃ (A : Option Addr) (n c : Nat) (ps : List Dstp), v = .slice A n c ∧ ps.length = n ∧ n ≤ maxLen ∧ RowAt 4 stCells w w.heap.size A ps ∧ ∀ p ∈ ps, p.text.size ≤ maxLen :=
  open_rowsOf (by omega) Tryz.underlying33 Tryz.cellsStep (fun _ => rfl) (fun h => open_step h) hf

def GoodRd (w : World) (x : Rd) : Prop := ChAt w w.heap.size x ∧ (okI x.dg.at_ ∧ okI x.dg.fin ∧ okI x.dg.code) ∧ x.n ≤ maxLen ∧ x.dg.text.size ≤ maxLen ∧ ∀ y ∈ x.dg.chain, y.text.size ≤ maxLen

set_option maxRecDepth 100000 in
/-- A diagnostic that came in. -/
theorem open_diag {fuel : Nat} {cs : List Value} {x : DataW H × List MemPlace} (h : DataW.trod enc Tryz.prog w base (fun _ => true) true fuel 35 cs = some x) :
    ∃ p : Rd, cs = rdCells p ∧ GoodRd w p := by
  obtain ⟨xs, n, -, -, hl, hxl, hf⟩ := DataW.trod_struct Tryz.underlying35 h
  rw [Tryz.cellsDg] at hl
  obtain ⟨c0, c1, c2, c3, c4, rfl⟩ := list5 hl
  have some_of : ∀ j, j < 5 → ∃ y, xs[j]? = some y := fun j hj => ⟨_, List.getElem?_eq_getElem (by rw [hxl]; exact hj)⟩
  have g0 := hf 0 _ rfl
  have g1 := hf 1 _ rfl
  have g2 := hf 2 _ rfl
  have g3 := hf 3 _ rfl
  have g4 := hf 4 _ rfl
  obtain ⟨y0, e0⟩ := some_of 0 (by omega)
  obtain ⟨y1, e1⟩ := some_of 1 (by omega)
  obtain ⟨y2, e2⟩ := some_of 2 (by omega)
  obtain ⟨y3, e3⟩ := some_of 3 (by omega)
  obtain ⟨y4, e4⟩ := some_of 4 (by omega)
  rw [e0] at g0
  rw [e1] at g1
  rw [e2] at g2
  rw [e3] at g3
  rw [e4] at g4
  simp [Tryz.cellsInt, Tryz.cellsString, Tryz.cellsSteps] at g0 g1 g2 g3 g4
  obtain ⟨a0, k0, -, w0⟩ := DataW.trod_int Tryz.underlying3 g0
  obtain ⟨a1, k1, -, w1⟩ := DataW.trod_int Tryz.underlying3 g1
  obtain ⟨a2, k2, -, w2⟩ := DataW.trod_int Tryz.underlying3 g2
  obtain ⟨a3, k3, -, h3⟩ := DataW.trod_string Tryz.underlying9 g3
  obtain ⟨A, m, c, ps, k4, h4, h5, h6, h7⟩ := open_steps g4
  simp only [List.cons.injEq, and_true] at k0 k1 k2 k3
  subst k0 k1 k2 k3 k4
  exact ⟨⟨⟨a0, a1, a2, a3, ps⟩, A, m, c, 0⟩, rfl, ⟨h4, h6⟩, ⟨okI_wf w1, okI_wf w2, okI_wf w0⟩, h5, h3, h7⟩

/-- Diagnostics with the places where they stand. -/
def tagL : Nat → List Rd → List Rd
  | _, [] => []
  | k, x :: l => { x with tag := k } :: tagL (k + 1) l
theorem tagL_get : ∀ (l : List Rd) (k i : Nat), (tagL k l)[i]? = (l[i]?).map fun x => { x with tag := k + i } := by
  intro l
  induction l with
  | nil => intro k i; simp [tagL]
  | cons x l ih =>
    intro k i
    cases i with
    | zero => simp [tagL]
    | succ i => simp [tagL, ih, Nat.add_assoc, Nat.add_comm 1 i]
theorem tagL_length (l : List Rd) (k : Nat) : (tagL k l).length = l.length := by
  induction l generalizing k with
  | nil => rfl
  | cons x l ih => simp [tagL, ih]

/-- A slice of diagnostics that came in. -/
theorem open_diags {v : Value} {fuel : Nat} {x : DataW H × List MemPlace} (hf : DataW.trod enc Tryz.prog w base (fun _ => true) true fuel 29 [v] = some x) :
    ∃ (A : Option Addr) (n c : Nat) (ps : List Rd), v = .slice A n c ∧ ps.length = n ∧ n ≤ maxLen ∧ RowAt 5 rdCells w w.heap.size A ps ∧ Tagged ps ∧ ∀ p ∈ ps, GoodRd w p := by
  obtain ⟨A, n, c, ps, h1, h2, h3, h4, h5⟩ := open_rowsOf (cells := rdCells) (k := 5) (by omega) Tryz.underlying29 Tryz.cellsDg (fun _ => rfl) (fun h => open_diag h) hf
  refine ⟨A, n, c, tagL 0 ps, h1, by rw [tagL_length]; exact h2, h3, fun k p hk => ?_, fun k p hk => ?_, fun p hp => ?_⟩
  · rw [tagL_get] at hk
    obtain ⟨q, hq, rfl⟩ := Option.map_eq_some_iff.1 hk
    exact h4 k q hq
  · rw [tagL_get] at hk
    obtain ⟨q, hq, rfl⟩ := Option.map_eq_some_iff.1 hk
    simp
  · obtain ⟨k, hk⟩ := List.mem_iff_getElem?.1 hp
    rw [tagL_get] at hk
    obtain ⟨q, hq, rfl⟩ := Option.map_eq_some_iff.1 hk
    exact h5 q (List.mem_of_getElem? hq)
end
end Go.Proofs.YtinpopjnnljkhaaGreatDoor
