/- TemplatesUndoes: an edit, and then the edit that undoes it, gives the tree. Part 10 of 14. -/
import Derived.Test.YtfkdkbekmimhoaaGreatDoorUnd09
/- templates.Apply at one possible edit, walked. -/
namespace Go.Proofs.YtfkdkbekmimhoaaGreatDoor
open Go.RowKit Go.Shelf

attribute [local go_sem] Oper.semAt_some

def edC (e : Ed) (Ap : Option Addr) (cp : Nat) (An : Option Addr) (cn : Nat) : List Value := [.slice Ap e.path.length cp, .int .i64 e.from_, .int .i64 e.to_, .slice An e.new.length cn, .int .i64 e.template, .int .i64 e.choice, .int .i64 e.cost]
def applyM (t : Tree) (ed : Ed) : Tree := replM ed.from_.toNat ed.to_.toNat ed.new ed.path t

theorem stored7 {w : World} {g : Nat} {c0 c1 c2 c3 c4 c5 c6 a b c d e f h : Value} (hB : Blk w g 30 #[c0, c1, c2, c3, c4, c5, c6]) : ∃ W, ((((((w.setCell ⟨g, 0, none⟩ a).setCell ⟨g, 1, none⟩ b).setCell ⟨g, 2, none⟩ c).setCell ⟨g, 3, none⟩ d).setCell ⟨g, 4, none⟩ e).setCell ⟨g, 5, none⟩ f).setCell ⟨g, 6, none⟩ h = W ∧ Blk W g 30 #[a, b, c, d, e, f, h] ∧
    (∀ q, q ≠ g → W.heap[q]? = w.heap[q]?) ∧ ∀ B w0, Below B w0 w → B ≤ g → Below B w0 W := by
  refine ⟨_, rfl, ?_, fun q hq => ?_, fun B w0 hb hB => ((((((hb.setCell hB _).setCell hB _).setCell hB _).setCell hB _).setCell hB _).setCell hB _).setCell hB _⟩
  · have := ((((((hB.set_ 0 a).set_ 1 b).set_ 2 c).set_ 3 d).set_ 4 e).set_ 5 f).set_ 6 h
    simpa using this
  · rw [Below.heap_setCell _ ⟨g, 6, none⟩ _ q hq, Below.heap_setCell _ ⟨g, 5, none⟩ _ q hq, Below.heap_setCell _ ⟨g, 4, none⟩ _ q hq, Below.heap_setCell _ ⟨g, 3, none⟩ _ q hq, Below.heap_setCell _ ⟨g, 2, none⟩ _ q hq, Below.heap_setCell _ ⟨g, 1, none⟩ _ q hq, Below.heap_setCell _ ⟨g, 0, none⟩ _ q hq]
theorem Blk.seven {w : World} {g : Nat} {ty : TypeId} {a b c d e f h : Value} (hB : Blk w g ty #[a, b, c, d, e, f, h]) :
    (w.cell? ⟨g, 0, none⟩ = some a ∧ w.cell? ⟨g, 1, none⟩ = some b ∧ w.cell? ⟨g, 2, none⟩ = some c ∧ w.cell? ⟨g, 3, none⟩ = some d ∧ w.cell? ⟨g, 4, none⟩ = some e ∧ w.cell? ⟨g, 5, none⟩ = some f ∧ w.cell? ⟨g, 6, none⟩ = some h) ∧
    w.frozen? ⟨g, 0, none⟩ = false ∧ w.frozen? ⟨g, 1, none⟩ = false ∧ w.frozen? ⟨g, 2, none⟩ = false ∧ w.frozen? ⟨g, 3, none⟩ = false ∧ w.frozen? ⟨g, 4, none⟩ = false ∧ w.frozen? ⟨g, 5, none⟩ = false ∧ w.frozen? ⟨g, 6, none⟩ = false :=
  ⟨⟨hB.cell 0, hB.cell 1, hB.cell 2, hB.cell 3, hB.cell 4, hB.cell 5, hB.cell 6⟩, hB.frozen 0, hB.frozen 1, hB.frozen 2, hB.frozen 3, hB.frozen 4, hB.frozen 5, hB.frozen 6⟩
theorem news_eight (w : World) (g : Nat) (a b c d e f h i : Value) (h0 : w.cell? ⟨g, 0, none⟩ = some a) (h1 : w.cell? ⟨g, 1, none⟩ = some b) (h2 : w.cell? ⟨g, 2, none⟩ = some c) (h3 : w.cell? ⟨g, 3, none⟩ = some d) (h4 : w.cell? ⟨g, 4, none⟩ = some e) (h5 : w.cell? ⟨g, 5, none⟩ = some f) (h6 : w.cell? ⟨g, 6, none⟩ = some h) (h7 : w.cell? ⟨g, 7, none⟩ = some i) :
    ∀ j v, (numC a b c d e f h i)[j]? = some v → w.cell? ((⟨g, 0, none⟩ : Addr).add j) = some v := by
  intro j v hj
  unfold numC at hj
  match j, hj with
  | 0, hj => simp at hj; subst hj; exact h0
  | 1, hj => simp at hj; subst hj; exact h1
  | 2, hj => simp at hj; subst hj; exact h2
  | 3, hj => simp at hj; subst hj; exact h3
  | 4, hj => simp at hj; subst hj; exact h4
  | 5, hj => simp at hj; subst hj; exact h5
  | 6, hj => simp at hj; subst hj; exact h6
  | 7, hj => simp at hj; subst hj; exact h7
  | j + 8, hj => simp at hj
theorem num_info : (Tryz.prog.info? 66).map (fun i => (i.zero, i.size, i.bytes)) = some (some (.agg #[.slice none 0 0, .int .i64 0, .int .i64 0, .slice none 0 0, .int .i64 0, .int .i64 0, .int .i64 0, .int .i64 0]), 8, 96) := by kernel_rfl

theorem rangeFunc_box {F : Fence} {n : Nat} {P : Program} {w : World} {α : Type} (tb : Nat) {g : Operand} {ps : Array Tmp} {assign body : Code} {Q : Exit → Act → World → Prop} {a : Act}
    (hro : F.round = none) (h1 : 1 ≤ n) {gf : Nat} {lb : Array Value} (hg : a.eval g = .func (.func gf) #[] lb) (hFg : F.fn gf) (eg : ∀ args w, (callFunc gf args).run P w = .ok (.enter gf args) w)
    {encs : α → Array Value} {Kp : World → World → Prop} {S Sp : List α → Prop} {N : Nat} {w0 : World} (hseq : SeqStopsK F (n - 1) P gf lb encs Kp S Sp N w0)
    (hKt : ∀ {A B C : World}, Kp A B → Kp B C → Kp A C) (hKb : ∀ (W : World) (l : Nat) (o o' : Obj), w.heap.size ≤ l → W.heap[l]? = some o → o.isCells = false → o.isWalk = false → Kp W (W.putObj l o')) (hb0 : Below w0.heap.size w0 w) (hps : ∀ x, (encs x).size = ps.size)
    (I : List α → World → Prop) (Ix : Code → List α → World → Prop) (hI : OwnFrom w.heap.size I) (hIx : ∀ c, OwnFrom w.heap.size (Ix c)) (h0 : I [] w) (R : α → Nat → World → Prop) (hR : ∀ x gE, OwnFrom w.heap.size (fun (_ : Unit) W => R x gE W))
    (hassign : ∀ (l : Nat) (pre : List α) (x : α) (W : World) (K : Act → World → Prop), I pre W → (∀ gE W', KeepsFrom w.heap.size W W' → Kp W W' → I pre W' → R x gE W' → K { tmps := ((ps.zip (encs x)).foldl (fun t (p, v) => t.setIfInBounds p v) a.tmps).setIfInBounds tb (.pointer (some ⟨gE, 0, none⟩)), defers := [] } W') →
      assign.wpIn (F.inRound l) (n - 1 - 1) P (Exit.then K (fun _ _ _ => False)) { tmps := (ps.zip (encs x)).foldl (fun t (p, v) => t.setIfInBounds p v) a.tmps, defers := [] } W)
    (hbody : ∀ (l : Nat) (pre : List α) (x : α) (gE : Nat) (W : World), w.heap.size ≤ l → (∃ r, W.heap[l]? = some (.loop r)) → I pre W → R x gE W → pre.length < N → body.wpIn (F.inRound l) (n - 1 - 1) P (ownPostG w.heap.size Kp I Ix (pre ++ [x]) W) { tmps := ((ps.zip (encs x)).foldl (fun t (p, v) => t.setIfInBounds p v) a.tmps).setIfInBounds tb (.pointer (some ⟨gE, 0, none⟩)), defers := [] } W)
    (hdone : ∀ (D : Nat) (xs : List α) (W : World), w.heap.size ≤ D → S xs → I xs W → W.heap[D]? = some (.deferred (some [])) → Q .normal { a with defers := { target := .collected D, args := #[] } :: a.defers } W)
    (hstop : ∀ (D : Nat) (c : Code) (pre : List α) (W : World), w.heap.size ≤ D → Sp pre → Ix c pre W → W.heap[D]? = some (.deferred (some [])) → c.wpIn F n P Q { a with defers := { target := .collected D, args := #[] } :: a.defers } W) :
    (Code.rangeFunc g ps assign body).wpIn F n P Q a w :=
  wpIn_rangeFunc_ownH hro h1 hg hFg eg hseq (fun h k => hKt h k) hKb hb0 hps I Ix hI hIx h0
    (fun x a' W => ∃ gE, a' = { tmps := ((ps.zip (encs x)).foldl (fun t (p, v) => t.setIfInBounds p v) a.tmps).setIfInBounds tb (.pointer (some ⟨gE, 0, none⟩)), defers := [] } ∧ R x gE W)
    (fun x a' s X Y row ⟨gE, h1, h2⟩ hg hr => ⟨gE, h1, hR x gE () X Y row h2 hg hr⟩)
    (fun l pre x W K hi hK => hassign l pre x W K hi fun gE W' h1 h2 h3 h4 => hK _ _ h1 h2 h3 ⟨gE, rfl, h4⟩)
    (fun l pre x a' W hl hr hi ⟨gE, he, hR'⟩ hlt => by subst he; exact hbody l pre x gE W hl hr hi hR' hlt) hdone hstop
theorem treeOwn_ownFrom {β : Type} (B : Nat) (P : β → Nat → Prop) (t : β → Tree) (cs : β → List Value) : OwnFrom B (fun s W => TreeOwn W (P s) (t s) (cs s)) := fun s X Y row hs hg hr => TreeOwn.keeps (fun g c _ hc => hg.block g (Array.getElem?_eq_some_iff.1 hc).1 (fun e => by
  obtain ⟨_, o, ho, hcl⟩ := hr g e.symm
  rw [hc] at ho
  cases ho
  cases hcl)) _ _ hs
theorem keepsFrom_below {W W' : World} (B : Nat) (h : Below W.heap.size W W') : KeepsFrom B W W' := ⟨h.size, fun k _o _ hk _ => (h.block k (Array.getElem?_eq_some_iff.1 hk).1).trans hk⟩

/-- The tree ahead of the one round, and behind it. -/
def pickT (t T : Tree) : List Unit → Tree
  | [] => t
  | _ :: _ => T
theorem TreeOwn.kids {w : World} {P : Nat → Prop} {t : Tree} {A : Option Addr} {c : Nat} (h : TreeOwn w P t (cellsV t A c)) : KidsAt w w.heap.size A 0 t.kids ∧ t.kids.length ≤ c := by
  have h := TreeOwn.at_ t _ h
  obtain ⟨k, x, a, z, kids⟩ := t
  obtain ⟨A', c', h1, h2, h3⟩ := h
  unfold cellsV at h1
  cases h1
  exact ⟨h3, h2⟩

set_option maxHeartbeats 8000000 in
set_option maxRecDepth 100000 in
theorem Apply_any (t : Tree) (A : Option Addr) (c : Nat) (ed : Ed) (Ap : Option Addr) (cp : Nat) (An : Option Addr) (cn be oe ce : Nat) (w : World) (hposs : possM t ed = true) (hcnt : countM t + countsM ed.new ≤ 1000000) (hk : KidsAt w w.heap.size A 0 t.kids) (hcap : t.kids.length ≤ c) (hp : IntsAt w w.heap.size Ap ed.path) (hpl : ed.path.length ≤ 1000000) (hpc : ed.path.length ≤ cp) (hkn : KidsAt w w.heap.size An 0 ed.new) (hbe : be < w.heap.size)
    (hce : ∀ j v, (edC ed Ap cp An cn)[j]? = some v → w.cell? ⟨be, oe + j, none⟩ = some v) :
    Calls Tryz.prog 14 #[nodeV t A c, .slice (some ⟨be, oe, none⟩) 1 ce] w (ReplRes w (applyM t ed)) := by
  obtain ⟨i0, hi0, hz0, hz1, hz2⟩ := info_parts num_info
  obtain ⟨y, hgy⟩ : ∃ y, getM t ed.path = some y := by
    unfold possM at hposs
    cases hg : getM t ed.path with
    | none => rw [hg] at hposs; cases hposs
    | some y => exact ⟨y, rfl⟩
  have hposs2 := hposs
  unfold possM at hposs2
  rw [hgy] at hposs2
  simp only [Bool.and_eq_true, Bool.or_eq_true, decide_eq_true_eq] at hposs2
  obtain ⟨h0f, hft, hty, hls⟩ := hposs2
  have hctn : countM t ≤ 1000000 := by omega
  have hPoss := fun W (hb : Below w.heap.size w W) => Possible_any t A c ed Ap cp An cn W hctn (KidsAt.mono hb.size _ _ _ (KidsAt.below hb (Nat.le_refl _) _ _ _ hk)) hcap ((hp.below hb (Nat.le_refl _)).mono hb.size) hpl
  have hNum := fun W (hb : Below w.heap.size w W) => Number_any t y A c Ap ed.path.length cp ed.path W (KidsAt.mono hb.size _ _ _ (KidsAt.below hb (Nat.le_refl _) _ _ _ hk)) hcap hctn ((hp.below hb (Nat.le_refl _)).mono hb.size) rfl hpl hgy
  have hCop := fun W (hb : Below w.heap.size w W) => copied_any t A c W hctn (KidsAt.mono hb.size _ _ _ (KidsAt.below hb (Nat.le_refl _) _ _ _ hk))
  obtain ⟨path, frI, tzI, new, tm, ch, co⟩ := ed
  obtain ⟨fr, rfl⟩ : ∃ n : Nat, frI = (n : Int) := ⟨frI.toNat, (Int.toNat_of_nonneg h0f).symm⟩
  have h0f : (0 : Int) ≤ (fr : Int) := h0f
  have hft : (fr : Int) ≤ tzI := hft
  obtain ⟨tz, rfl⟩ : ∃ n : Nat, tzI = (n : Int) := ⟨tzI.toNat, (Int.toNat_of_nonneg (by omega)).symm⟩
  obtain ⟨np, hnp⟩ : ∃ q, path.length = q := ⟨_, rfl⟩
  obtain ⟨nn, hnn⟩ : ∃ q, new.length = q := ⟨_, rfl⟩
  obtain ⟨k, hkk⟩ : ∃ q, t.kind = q := ⟨_, rfl⟩
  obtain ⟨x, hx⟩ : ∃ q, t.text = q := ⟨_, rfl⟩
  obtain ⟨a, ha⟩ : ∃ q, t.at_ = q := ⟨_, rfl⟩
  obtain ⟨z, hz⟩ : ∃ q, t.end_ = q := ⟨_, rfl⟩
  obtain ⟨n, hn⟩ : ∃ q, t.kids.length = q := ⟨_, rfl⟩
  have hnv : nodeV t A c = .agg #[.int .i64 k, .string x, .int .i64 a, .int .i64 z, .slice A n c] := by unfold nodeV; rw [hkk, hx, ha, hz, hn]
  have hev : edV ⟨path, fr, tz, new, tm, ch, co⟩ Ap cp An cn = .agg #[.slice Ap np cp, .int .i64 fr, .int .i64 tz, .slice An nn cn, .int .i64 tm, .int .i64 ch, .int .i64 co] := by unfold edV; rw [hnp, hnn]
  have hec : edC ⟨path, fr, tz, new, tm, ch, co⟩ Ap cp An cn = [.slice Ap np cp, .int .i64 fr, .int .i64 tz, .slice An nn cn, .int .i64 tm, .int .i64 ch, .int .i64 co] := by unfold edC; rw [hnp, hnn]
  rw [hec] at hce
  rw [hposs] at hPoss
  have hNum : ∀ W, Below w.heap.size w W → Calls Tryz.prog 34 #[nodeV t A c, .slice Ap np cp] W (NumRes W) := fun W hb => by rw [← hnp]; exact hNum W hb
  rw [hnv, hev] at hPoss
  rw [hnv] at hNum hCop ⊢
  obtain ⟨W1, hW1⟩ : ∃ W1, w.alloc (.cells #[.int .i64 k, .string x, .int .i64 a, .int .i64 z, .slice A n c] 24) = W1 := ⟨_, rfl⟩
  have hR1 : Blk W1 w.heap.size 24 #[.int .i64 k, .string x, .int .i64 a, .int .i64 z, .slice A n c] := by rw [← hW1]; exact Blk.new w _ _
  have hs1 : W1.heap.size = w.heap.size + 1 := by rw [← hW1]; simp
  have hb1 : Below w.heap.size w W1 := by rw [← hW1]; exact below_alloc _ _
  obtain ⟨W2, hW2⟩ : ∃ W2, W1.alloc (.cells #[.int .i64 0, .string ⟨#[]⟩, .int .i64 0, .int .i64 0, .slice none 0 0] 24) = W2 := ⟨_, rfl⟩
  have hR2 : Blk W2 W1.heap.size 24 #[.int .i64 0, .string ⟨#[]⟩, .int .i64 0, .int .i64 0, .slice none 0 0] := by rw [← hW2]; exact Blk.new W1 _ _
  have hs2 : W2.heap.size = w.heap.size + 2 := by rw [← hW2]; simp [hs1]
  have hb2 : Below w.heap.size w W2 := by rw [← hW2]; exact hb1.alloc (by omega) _
  have hR12 : Blk W2 w.heap.size 24 #[.int .i64 k, .string x, .int .i64 a, .int .i64 z, .slice A n c] := by rw [← hW2]; exact hR1.alloc _
  obtain ⟨g1, hg1⟩ : ∃ g1, W1.heap.size = g1 := ⟨_, rfl⟩
  rw [hg1] at hR2 hs1
  have HP := Lib.hid hPoss
  have HN := Lib.hid hNum
  have HC := Lib.hid hCop
  have HR2 := Lib.hid hR2
  have HR1 := Lib.hid hR12
  have HB2 := Lib.hid hb2
  have HS : Hid (g1 = w.heap.size + 1 ∧ W2.heap.size = w.heap.size + 2) := Lib.hid ⟨hs1, hs2⟩
  have HCE := Lib.hid hce
  have HFIN := Lib.hid (And.intro hgy (And.intro hft (And.intro hty (And.intro hls (And.intro hcnt (And.intro hp (And.intro hpc (And.intro hkn hnp))))))))
  have HNN := Lib.hid hnn
  have HPL := Lib.hid hpl
  have HKT := Lib.hid (And.intro hkk (And.intro hx (And.intro ha (And.intro hz hn))))
  clear hPoss hNum hCop hR2 hR12 hb2 hs1 hs2 hR1 hb1 hk hcap hp hpl hpc hkn hgy hft hty hls hcnt hnp hec hev hnv hctn hposs h0f hkk hx ha hz hn hnn hce
  refine (callsIn_wide (n := 6)).1 ?_
  refine callsIn_of_wp_marks Tryz.func14 rfl trivial ?_ rfl
  simp only [Tryz.ntmps14, List.size_toArray, List.length_cons, List.length_nil, Nat.reduceAdd, Nat.reduceSub, Array.replicate_succ, Array.replicate_zero, List.push_toArray, List.append_toArray, List.nil_append, List.cons_append]
  gi_wp2_with (first | rw [hW1] | rw [hW2] | rw [hg1])
  clear hW1 hW2 hg1
  gi_loopw [6, 18] (fun s6 s18 wr => (s18 = .int .i64 0 ∧ s6 = .slice none 0 0 ∧ wr = W2) ∨ (s18 = .int .i64 1 ∧ ∃ (g c8 : Nat), s6 = .slice (some ⟨g, 0, none⟩) 1 c8 ∧ Hid (∃ m : Int, W2.heap.size ≤ g ∧ g < wr.heap.size ∧ (∀ j v, (numC (.slice Ap np cp) (.int .i64 fr) (.int .i64 tz) (.slice An nn cn) (.int .i64 tm) (.int .i64 ch) (.int .i64 co) (.int .i64 m))[j]? = some v → wr.cell? ⟨g, j, none⟩ = some v) ∧ Below W2.heap.size W2 wr))) (fun _ s18 _ => 1 - (intOf s18).toNat)
  case atStart => exact .inl ⟨rfl, rfl, rfl⟩
  case round =>
    rcases hrel with ⟨rfl, rfl, rfl⟩ | ⟨rfl, g8, c8, rfl, H8⟩
    · obtain ⟨W3, hW3⟩ : ∃ W3, wr.alloc (.cells #[.slice none 0 0, .int .i64 0, .int .i64 0, .slice none 0 0, .int .i64 0, .int .i64 0, .int .i64 0] 30) = W3 := ⟨_, rfl⟩
      have hR3 : Blk W3 wr.heap.size 30 #[.slice none 0 0, .int .i64 0, .int .i64 0, .slice none 0 0, .int .i64 0, .int .i64 0, .int .i64 0] := by rw [← hW3]; exact Blk.new wr _ _
      have hb3 : Below wr.heap.size wr W3 := by rw [← hW3]; exact below_alloc _ _
      obtain ⟨W4, hW4, hR4, hf4, hB4⟩ := stored7 (a := .slice Ap np cp) (b := .int .i64 fr) (c := .int .i64 tz) (d := .slice An nn cn) (e := .int .i64 tm) (f := .int .i64 ch) (h := .int .i64 co) hR3
      have hb4 := hB4 _ _ hb3 (Nat.le_refl _)
      have hbw4 := HB2.out.trans (hb4.mono HB2.out.size)
      obtain ⟨⟨y0, y1, y2, y3, y4, y5, y6⟩, v0, v1, v2, v3, v4, v5, v6⟩ := hR3.seven
      obtain ⟨⟨z0, z1, z2, z3, z4, z5, z6⟩, -⟩ := hR4.seven
      have hz4 := hR4.lt
      have hbl : be < wr.heap.size := by have := HS.out; omega
      have r0 : wr.cell? ⟨be, oe, none⟩ = some (.slice Ap np cp) := (HB2.out.cell (p := ⟨be, _, none⟩) hbe).trans (by simpa using HCE.out 0 _ rfl)
      have r1 : wr.cell? ⟨be, oe + 1, none⟩ = some (.int .i64 fr) := (HB2.out.cell (p := ⟨be, _, none⟩) hbe).trans (HCE.out 1 _ rfl)
      have r2 : wr.cell? ⟨be, oe + 2, none⟩ = some (.int .i64 tz) := (HB2.out.cell (p := ⟨be, _, none⟩) hbe).trans (HCE.out 2 _ rfl)
      have r3 : wr.cell? ⟨be, oe + 3, none⟩ = some (.slice An nn cn) := (HB2.out.cell (p := ⟨be, _, none⟩) hbe).trans (HCE.out 3 _ rfl)
      have r4 : wr.cell? ⟨be, oe + 4, none⟩ = some (.int .i64 tm) := (HB2.out.cell (p := ⟨be, _, none⟩) hbe).trans (HCE.out 4 _ rfl)
      have r5 : wr.cell? ⟨be, oe + 5, none⟩ = some (.int .i64 ch) := (HB2.out.cell (p := ⟨be, _, none⟩) hbe).trans (HCE.out 5 _ rfl)
      have r6 : wr.cell? ⟨be, oe + 6, none⟩ = some (.int .i64 co) := (HB2.out.cell (p := ⟨be, _, none⟩) hbe).trans (HCE.out 6 _ rfl)
      have hr4 := HR1.out.below hb4 HR1.out.lt
      obtain ⟨⟨t0, t1, t2, t3, t4⟩, -⟩ := hr4.five
      have hgb : w.heap.size < W4.heap.size := hr4.lt
      have hpc := HP.out W4 hbw4
      have HPC := Lib.hid hpc
      have HR4 := Lib.hid hR4
      have HB4 := Lib.hid hb4
      clear hR3 hb3 hR4 hf4 hB4 hb4 hbw4 hr4 hpc
      gi_wp2_with (first | rw [hW3] | rw [hW4])
      refine ⟨trivial, (callsIn_wide.2 HPC.out).mono ?_⟩
      rintro e w5 ⟨rfl, hb5⟩
      have hb25 : Below wr.heap.size wr w5 := HB4.out.trans (hb5.mono HB4.out.size)
      have hbw5 : Below w.heap.size w w5 := HB2.out.trans (hb25.mono HB2.out.size)
      have hr5 := HR1.out.below hb25 HR1.out.lt
      have hE5 := HR4.out.below hb5 HR4.out.lt
      clear t0 t1 t2 t3 t4 y0 y1 y2 y3 y4 y5 y6 v0 v1 v2 v3 v4 v5 v6 z0 z1 z2 z3 z4 z5 z6 r0 r1 r2 r3 r4 r5 r6 hW3 hW4
      obtain ⟨⟨t0, t1, t2, t3, t4⟩, -⟩ := hr5.five
      obtain ⟨⟨z0, z1, z2, z3, z4, z5, z6⟩, -⟩ := hE5.seven
      have HNC := Lib.hid (HN.out w5 hbw5)
      have HE5 := Lib.hid hE5
      have HB5 := Lib.hid hb25
      have HZ4 := Lib.hid hz4
      clear hb5 hb25 hbw5 hr5 hE5 hz4 hgb
      gi_wp2_with fail
      refine ⟨trivial, (callsIn_wide.2 HNC.out).mono ?_⟩
      rintro e w6 ⟨hb6, m, rfl⟩
      have hE6 := HE5.out.below hb6 HE5.out.lt
      have hb26 : Below wr.heap.size wr w6 := HB5.out.trans (hb6.mono HB5.out.size)
      clear t0 t1 t2 t3 t4 z0 z1 z2 z3 z4 z5 z6
      obtain ⟨⟨z0, z1, z2, z3, z4, z5, z6⟩, -⟩ := hE6.seven
      have hs6 := hb26.size
      have HB6 := Lib.hid hb26
      clear hb6 hE6 hb26 hbl
      gi_wp2_with (gi_at_builtin; go_loud (refine wpListIn_append_own _ rfl _ _ 62 rfl wr.heap.size 66 i0 _ 8 96 Tryz.underlying62 hi0 hz0 hz1 hz2 rfl (by decide) _ 0 [] rfl ⟨rfl, .inl ⟨rfl, rfl⟩⟩ ⟨w6.heap.size, 0, none⟩ 1 1 (numC (.slice Ap np cp) (.int .i64 fr) (.int .i64 tz) (.slice An nn cn) (.int .i64 tm) (.int .i64 ch) (.int .i64 co) (.int .i64 m)) rfl rfl (news_eight _ _ _ _ _ _ _ _ _ _ (by go_simp) (by go_simp) (by go_simp) (by go_simp) (by go_simp) (by go_simp) (by go_simp) (by go_simp)) (by simp [numC, Value.oneCell']) (by simp only [maxLen]; omega) (by omega) (by simp; omega) ?_); intro v' w7 hown hgrow _)
      refine ⟨.inr ⟨rfl, ?_⟩, by simp [intOf]⟩
      have hO := OwnS.of_row hown
      obtain ⟨g8, off8, c8, hv8, -, -, hb8, hl8, hc8⟩ := hO.form (by omega)
      have h0 : off8 = 0 := by
        rcases hown.2 with ⟨_, h⟩ | ⟨g', cap', cur', hv', -⟩
        · exact absurd h (by omega)
        · rw [hv'] at hv8
          cases hv8
          rfl
      subst h0
      refine ⟨g8, c8, hv8, Lib.hid ⟨m, hb8, hl8, fun j v hj => ?_, ?_⟩⟩
      · have := hc8 j v (by simpa using hj)
        rw [Nat.zero_add] at this
        exact this
      · exact (HB6.out.alloc hs6 _).grown hgrow (by simp; omega) (fun k e => by cases e)
    · obtain ⟨wo, hwo⟩ : ∃ wo : World, wo = wr := ⟨_, rfl⟩
      subst hwo
      gi_wp2
      gi_loopw [43] (fun s43 wx => (s43 = .int .i64 0 ∧ wx = wo) ∨ (s43 = .int .i64 1 ∧ Below wo.heap.size wo wx)) (fun s43 _ => 1 - (intOf s43).toNat)
      case atStart => exact .inl ⟨rfl, rfl⟩
      case round =>
        rcases hrel with ⟨rfl, rfl⟩ | ⟨rfl, hbx⟩
        · have hbw : Below w.heap.size w wr := by
            obtain ⟨m, -, -, -, h⟩ := H8.out
            exact HB2.out.trans (h.mono HB2.out.size)
          obtain ⟨W3, hW3⟩ : ∃ W3, wr.alloc (.cells #[.slice none 0 0, .int .i64 0, .int .i64 0, .slice none 0 0, .int .i64 0, .int .i64 0, .int .i64 0] 30) = W3 := ⟨_, rfl⟩
          have hR3 : Blk W3 wr.heap.size 30 #[.slice none 0 0, .int .i64 0, .int .i64 0, .slice none 0 0, .int .i64 0, .int .i64 0, .int .i64 0] := by rw [← hW3]; exact Blk.new wr _ _
          have hb3 : Below wr.heap.size wr W3 := by rw [← hW3]; exact below_alloc _ _
          obtain ⟨W4, hW4, hR4, hf4, hB4⟩ := stored7 (a := .slice Ap np cp) (b := .int .i64 fr) (c := .int .i64 tz) (d := .slice An nn cn) (e := .int .i64 tm) (f := .int .i64 ch) (h := .int .i64 co) hR3
          have HB4 := Lib.hid (hB4 _ _ hb3 (Nat.le_refl _))
          obtain ⟨⟨y0, y1, y2, y3, y4, y5, y6⟩, v0, v1, v2, v3, v4, v5, v6⟩ := hR3.seven
          have r0 : wr.cell? ⟨be, oe, none⟩ = some (.slice Ap np cp) := (hbw.cell (p := ⟨be, _, none⟩) hbe).trans (by simpa using HCE.out 0 _ rfl)
          have r1 : wr.cell? ⟨be, oe + 1, none⟩ = some (.int .i64 fr) := (hbw.cell (p := ⟨be, _, none⟩) hbe).trans (HCE.out 1 _ rfl)
          have r2 : wr.cell? ⟨be, oe + 2, none⟩ = some (.int .i64 tz) := (hbw.cell (p := ⟨be, _, none⟩) hbe).trans (HCE.out 2 _ rfl)
          have r3 : wr.cell? ⟨be, oe + 3, none⟩ = some (.slice An nn cn) := (hbw.cell (p := ⟨be, _, none⟩) hbe).trans (HCE.out 3 _ rfl)
          have r4 : wr.cell? ⟨be, oe + 4, none⟩ = some (.int .i64 tm) := (hbw.cell (p := ⟨be, _, none⟩) hbe).trans (HCE.out 4 _ rfl)
          have r5 : wr.cell? ⟨be, oe + 5, none⟩ = some (.int .i64 ch) := (hbw.cell (p := ⟨be, _, none⟩) hbe).trans (HCE.out 5 _ rfl)
          have r6 : wr.cell? ⟨be, oe + 6, none⟩ = some (.int .i64 co) := (hbw.cell (p := ⟨be, _, none⟩) hbe).trans (HCE.out 6 _ rfl)
          have hbl : be < wr.heap.size := Nat.lt_of_lt_of_le hbe hbw.size
          clear hR3 hb3 hR4 hf4 hB4 hbw
          gi_wp2_with (first | rw [hW3] | rw [hW4])
          refine ⟨trivial, (callsIn_wide.2 (ContainsFunc_none _ _ _ _)).mono ?_⟩
          rintro e w5 ⟨rfl, hb5⟩
          have hb6 := HB4.out.trans (hb5.mono HB4.out.size)
          clear y0 y1 y2 y3 y4 y5 y6 v0 v1 v2 v3 v4 v5 v6 r0 r1 r2 r3 r4 r5 r6 hW3 hW4 hb5
          gi_wp2
          exact ⟨.inr ⟨rfl, hb6⟩, by simp [intOf]⟩
        · have hbw : Below w.heap.size w wr := by
            obtain ⟨m, -, -, -, h⟩ := H8.out
            exact (HB2.out.trans (h.mono HB2.out.size)).trans (hbx.mono (HB2.out.trans (h.mono HB2.out.size)).size)
          have hb2r : Below W2.heap.size W2 wr := by
            obtain ⟨m, -, -, -, h⟩ := H8.out
            exact h.trans (hbx.mono h.size)
          have H8r : Hid (∃ m : Int, W2.heap.size ≤ g8 ∧ g8 < wr.heap.size ∧ (∀ j v, (numC (.slice Ap np cp) (.int .i64 fr) (.int .i64 tz) (.slice An nn cn) (.int .i64 tm) (.int .i64 ch) (.int .i64 co) (.int .i64 m))[j]? = some v → wr.cell? ⟨g8, j, none⟩ = some v)) := Lib.hid (by
            obtain ⟨m, h1, h2, h3, h4⟩ := H8.out
            exact ⟨m, h1, Nat.lt_of_lt_of_le h2 hbx.size, fun j v hj => (hbx.cell (p := ⟨g8, _, none⟩) h2).trans (h3 j v hj)⟩)
          have hr0 := HR1.out.below hb2r HR1.out.lt
          have hz0' := HR2.out.below hb2r HR2.out.lt
          obtain ⟨⟨t0, t1, t2, t3, t4⟩, -⟩ := hr0.five
          have hgb := hr0.lt
          have HZ := Lib.hid hz0'
          have HBW := Lib.hid hbw
          have HCC := Lib.hid (HC.out wr hbw)
          clear hbx H8 hb2r hr0 hz0' hbw
          gi_wp2_with (first | (refine ⟨trivial, ?_⟩; gi_at_call 37; refine (callsIn_wide.2 (SortStable_one _ _ _ _)).mono ?_; rintro e w' ⟨rfl, rfl⟩))
          refine ⟨trivial, (callsIn_wide.2 HCC.out).mono ?_⟩
          rintro e w5 ⟨A5, c5, rfl, hT5, hb5⟩
          have hnv5 : nodeV t A5 c5 = .agg #[.int .i64 k, .string x, .int .i64 a, .int .i64 z, .slice A5 n c5] := by
            obtain ⟨hkk, hx, ha, hz, hn⟩ := HKT.out
            unfold nodeV; rw [hkk, hx, ha, hz, hn]
          have hcv5 : cellsV t A5 c5 = [.int .i64 k, .string x, .int .i64 a, .int .i64 z, .slice A5 n c5] := by
            obtain ⟨hkk, hx, ha, hz, hn⟩ := HKT.out
            unfold cellsV; rw [hkk, hx, ha, hz, hn]
          rw [hnv5]
          rw [hcv5] at hT5
          obtain ⟨W6, hW6⟩ : ∃ W6, w5.alloc (.cells #[.int .i64 0, .string ⟨#[]⟩, .int .i64 0, .int .i64 0, .slice none 0 0] 24) = W6 := ⟨_, rfl⟩
          have hR6 : Blk W6 w5.heap.size 24 #[.int .i64 0, .string ⟨#[]⟩, .int .i64 0, .int .i64 0, .slice none 0 0] := by rw [← hW6]; exact Blk.new w5 _ _
          have hb6 : Below w5.heap.size w5 W6 := by rw [← hW6]; exact below_alloc _ _
          obtain ⟨W7, hW7, hR7, hf7, hB7⟩ := stored5 (a := .int .i64 k) (b := .string x) (c := .int .i64 a) (d := .int .i64 z) (e := .slice A5 n c5) hR6
          have hb7 := hB7 _ _ hb6 (Nat.le_refl _)
          have hs7 : W7.heap.size = w5.heap.size + 1 := by rw [← hW7, ← hW6]; simp
          obtain ⟨⟨y0, y1, y2, y3, y4⟩, v0, v1, v2, v3, v4⟩ := hR6.five
          have H7 := Lib.hid (And.intro hT5 (And.intro hb5 (And.intro hR7 (And.intro hb7 hs7))))
          clear hT5 hb5 hR6 hb6 hR7 hf7 hB7 hb7 hs7
          gi_wp2_with (first | rw [hW6] | rw [hW7] | (refine ⟨trivial, ?_⟩; gi_at_call 39; refine (callsIn_wide.2 (Backward_any _ _ _ _)).mono ?_; rintro e w8 ⟨rfl, rfl⟩))
          clear y0 y1 y2 y3 y4 v0 v1 v2 v3 v4 hW6 hW7 t0 t1 t2 t3 t4
          obtain ⟨T, hT⟩ : ∃ T, applyM t ⟨path, fr, tz, new, tm, ch, co⟩ = T := ⟨_, rfl⟩
          rw [hT]
          obtain ⟨gT, hgT⟩ : ∃ q, w5.heap.size = q := ⟨_, rfl⟩
          obtain ⟨hT5, hb5, hR7, hb7, hs7⟩ := H7.out
          obtain ⟨w8, hw8⟩ : ∃ w8, W7.alloc (.cells #[.slice (some ⟨g8, 0, none⟩) 1 c8] 62) = w8 := ⟨_, rfl⟩
          rw [hgT] at hR7 hs7
          rw [hgT, hw8, hs7]
          have hbox : Blk w8 (gT + 1) 62 #[.slice (some ⟨g8, 0, none⟩) 1 c8] := by rw [← hw8, ← hs7]; exact Blk.new _ _ _
          have hs8 : w8.heap.size = gT + 2 := by rw [← hw8]; simp [hs7]
          have hb58 : Below w5.heap.size w5 w8 := by rw [← hw8]; exact hb7.alloc (by omega) _
          have hb8 : Below w'.heap.size w' w8 := hb5.trans (hb58.mono hb5.size)
          have hbw8 : Below w.heap.size w w8 := HBW.out.trans (hb8.mono HBW.out.size)
          have hR8 : Blk w8 gT 24 #[.int .i64 k, .string x, .int .i64 a, .int .i64 z, .slice A5 n c5] := by rw [← hw8]; exact hR7.alloc _
          have hZ8 := HZ.out.below hb8 HZ.out.lt
          have hg1w := HZ.out.lt
          have hT8 : TreeOwn w8 (fun q => g1 + 1 ≤ q ∧ q ≠ gT) t (cellsV t A5 c5) := by
            rw [hcv5]
            exact TreeOwn.keeps (KeepsN.of_below hb58) _ _ (TreeOwn.weak (fun q hq hq2 => ⟨by omega, by omega⟩) _ _ hT5)
          obtain ⟨m8, hg8, hg8l, hrow8⟩ := H8r.out
          have hrow : ∀ j v, (numC (.slice Ap np cp) (.int .i64 fr) (.int .i64 tz) (.slice An nn cn) (.int .i64 tm) (.int .i64 ch) (.int .i64 co) (.int .i64 m8))[j]? = some v → w8.cell? ⟨g8, 0 + j, none⟩ = some v := fun j v hj => by
            rw [Nat.zero_add]
            exact (hb8.cell (p := ⟨g8, _, none⟩) hg8l).trans (hrow8 j v hj)
          have hgT5 : w'.heap.size ≤ gT := by rw [← hgT]; exact hb5.size
          have h1 : 1 ≤ 6 := by omega
          have HT := Lib.hid hT
          clear hb5 hb7 hR7 hs7 hb58 hT5 hrow8 H7 H8r hw8 HCC hgT
          refine rangeFunc_box 15 rfl h1 (gf := 61) (lb := #[.pointer (some ⟨gT + 1, 0, none⟩)]) rfl trivial (enters_of Tryz.func61 (by kernel_rfl) rfl)
            (back_stops Fence.wide rfl (6 - 1) trivial rfl (gT + 1) gT (gT + 1) g8 0 c8 Ap An np cp nn cn fr tz tm ch co m8 w8 (Nat.le_refl _) hbox hrow (by omega)) CKeep.trans (fun W l o o' _ h hc _ => CKeep.putObj o' h hc) (Below.refl _ _) (fun _ => rfl)
            (fun pre W => (∃ A' c', Blk W gT 24 (cellsV (pickT t T pre) A' c').toArray ∧ TreeOwn W (fun q => g1 + 1 ≤ q ∧ q ≠ gT) (pickT t T pre) (cellsV (pickT t T pre) A' c')) ∧ (Blk W g1 24 #[.int .i64 0, .string ⟨#[]⟩, .int .i64 0, .int .i64 0, .slice none 0 0] ∧ Below w.heap.size w W ∧ w8.heap.size ≤ W.heap.size))
            (fun _ _ _ => False)
            (OwnFrom.and (fun s X Y row ⟨A', c', q1, q2⟩ hg hr => ⟨A', c', blk_ownFrom (β := Unit) w8.heap.size gT _ (fun _ => (cellsV (pickT t T s) A' c').toArray) () X Y row q1 hg hr, treeOwn_ownFrom (β := Unit) w8.heap.size (fun _ q => g1 + 1 ≤ q ∧ q ≠ gT) (fun _ => pickT t T s) (fun _ => cellsV (pickT t T s) A' c') () X Y row q2 hg hr⟩) (OwnFrom.and (blk_ownFrom _ _ _ _) (OwnFrom.and (ownFrom_below (Nat.le_refl _) hbw8.size) (fun _ X Y row hs hg _ => Nat.le_trans hs hg.size))))
            (fun _ _ _ _ _ hs _ _ => hs)
            ⟨⟨A5, c5, by unfold pickT; rw [hcv5]; exact hR8, hT8⟩, hZ8, hbw8, Nat.le_refl _⟩
            (fun _ gE W => w8.heap.size ≤ gE ∧ Blk W gE 66 #[.slice Ap np cp, .int .i64 fr, .int .i64 tz, .slice An nn cn, .int .i64 tm, .int .i64 ch, .int .i64 co, .int .i64 m8])
            (fun _ gE => OwnFrom.and (fun _ _ _ _ hs _ _ => hs) (blk_ownFrom _ _ _ _)) ?assign ?body ?done ?stop
          case assign =>
            rintro l pre - W K ⟨⟨A', c', q1, q2⟩, q3, q4, q5⟩ hK
            unfold numV at hK ⊢
            gi_wp2
            have hba := below_alloc W (.cells #[.slice Ap np cp, .int .i64 fr, .int .i64 tz, .slice An nn cn, .int .i64 tm, .int .i64 ch, .int .i64 co, .int .i64 m8] 66)
            have := hK W.heap.size _ (keepsFrom_below _ hba) (CKeep.of_below hba rfl) ⟨⟨A', c', q1.alloc _, TreeOwn.keeps (KeepsN.of_below hba) _ _ q2⟩, q3.alloc _, q4.trans (hba.mono q4.size), by simp; omega⟩ ⟨q5, Blk.new W _ _⟩
            simpa using this
          case body =>
            rintro l pre - gE W hl ⟨r0, hr0⟩ ⟨⟨A', c', q1, q2⟩, q3, q4, q5⟩ ⟨hgE, hE⟩ hlt
            have hpre : pre = [] := by
              cases pre with
              | nil => rfl
              | cons _ _ => simp at hlt
            subst hpre
            obtain ⟨hgy, hft, hty, hls, hcnt, hp, hpc, hkn, hnp⟩ := HFIN.out
            have hft : (fr : Int) ≤ (tz : Int) := hft
            have hty : (tz : Int) ≤ (y.kids.length : Int) := hty
            have hls : listB y.kind = true ∨ ((tz : Int) = (fr : Int) + 1 ∧ new.length = 1) := by simpa using hls
            have q2' : TreeOwn W (fun q => g1 + 1 ≤ q ∧ q ≠ gT) t (cellsV t A' c') := q2
            obtain ⟨hkt, hct⟩ := q2'.kids
            have hls2 : listB y.kind = true ∨ new.length = tz - fr := by
              rcases hls with h | ⟨h1, h2⟩
              · exact .inl h
              · exact .inr (by omega)
            have hrep := Replace_any fr tz new An cn path t y A' c' Ap np cp W hgy (by omega) (by omega) hcnt hls2 hkt hct ((hp.below q4 (Nat.le_refl _)).mono q4.size) hnp (by rw [← hnp]; exact hpc) (KidsAt.mono q4.size _ _ _ (KidsAt.below q4 (Nat.le_refl _) _ _ _ hkn)) (by rw [← hnp]; exact HPL.out)
            have hTe : replM fr tz new path t = T := HT.out
            rw [hTe, HNN.out] at hrep
            obtain ⟨hkk, hx, ha, hz, hn⟩ := HKT.out
            have hnv' : nodeV t A' c' = .agg #[.int .i64 k, .string x, .int .i64 a, .int .i64 z, .slice A' n c'] := by unfold nodeV; rw [hkk, hx, ha, hz, hn]
            have q1' : Blk W gT 24 #[.int .i64 k, .string x, .int .i64 a, .int .i64 z, .slice A' n c'] := by
              have : Blk W gT 24 (cellsV t A' c').toArray := q1
              unfold cellsV at this
              rw [hkk, hx, ha, hz, hn] at this
              exact this
            rw [hnv'] at hrep
            obtain ⟨⟨d0, d1, d2, d3, d4⟩, -⟩ := q1'.five
            have e0 := hE.cell 0
            have e1 := hE.cell 1
            have e2 := hE.cell 2
            have e3 := hE.cell 3
            have hgW := hE.lt
            have hgTW := q1'.lt
            simp only [List.getElem?_toArray, List.getElem?_cons_zero, List.getElem?_cons_succ] at e0 e1 e2 e3
            have HREP := Lib.hid hrep
            have HI := Lib.hid (And.intro q1' (And.intro q3 (And.intro q4 q5)))
            clear hrep q1 q1' q2 q2' q3 q4 q5 hkt hct hgy hft hty hls hls2 hcnt hp hpc hkn hnp hkk hx ha hz hn hnv' hE hR8 hT8 hZ8 hb8 hbw8 hbox hrow hg8 hg8l hnv5 hcv5
            gi_wp2
            refine ⟨trivial, (CallsIn.inRound l (callsIn_wide.2 HREP.out)).mono ?_⟩
            rintro e w9 ⟨A9, c9, rfl, hT9, hb9⟩
            obtain ⟨b1, b3, b4, b5⟩ := HI.out
            have hB9 := b1.below hb9 b1.lt
            have hZ9 := b3.below hb9 b3.lt
            obtain ⟨kt, hkt⟩ : ∃ q, T.kind = q := ⟨_, rfl⟩
            obtain ⟨xt, hxt⟩ : ∃ q, T.text = q := ⟨_, rfl⟩
            obtain ⟨at_, hat⟩ : ∃ q, T.at_ = q := ⟨_, rfl⟩
            obtain ⟨zt, hzt⟩ : ∃ q, T.end_ = q := ⟨_, rfl⟩
            obtain ⟨nt, hnt⟩ : ∃ q, T.kids.length = q := ⟨_, rfl⟩
            have hnvt : nodeV T A9 c9 = .agg #[.int .i64 kt, .string xt, .int .i64 at_, .int .i64 zt, .slice A9 nt c9] := by unfold nodeV; rw [hkt, hxt, hat, hzt, hnt]
            have hcvt : cellsV T A9 c9 = [.int .i64 kt, .string xt, .int .i64 at_, .int .i64 zt, .slice A9 nt c9] := by unfold cellsV; rw [hkt, hxt, hat, hzt, hnt]
            rw [hnvt]
            obtain ⟨W10, hW10, hR10, hf10, hB10⟩ := stored5 (a := .int .i64 kt) (b := .string xt) (c := .int .i64 at_) (d := .int .i64 zt) (e := .slice A9 nt c9) hB9
            have hT10 : TreeOwn W10 (fun q => g1 + 1 ≤ q ∧ q ≠ gT) T (cellsV T A9 c9) :=
              TreeOwn.keeps (fun g cs hq _ => hf10 g hq.2) _ _ (TreeOwn.weak (fun q _ hq => ⟨by omega, by omega⟩) _ _ hT9)
            have hkeep : ∀ q, q ≠ gT → q < W.heap.size → W10.heap[q]? = W.heap[q]? := fun q h1 h2 => (hf10 q h1).trans (hb9.block q h2)
            have hb10 := hB10 _ _ (b4.trans (hb9.mono b4.size)) (by omega)
            have hsz10 : W.heap.size ≤ W10.heap.size := by
              have h1 := hb9.size
              have h2 := (hB10 0 w9 (Below.refl _ _) (Nat.zero_le _)).size
              omega
            have HPOST : Hid (KeepsFrom w8.heap.size W W10 ∧ CKeep gT (gT + 1) W W10 ∧ (∃ A' c', Blk W10 gT 24 (cellsV (pickT t T ([] ++ [()])) A' c').toArray ∧ TreeOwn W10 (fun q => g1 + 1 ≤ q ∧ q ≠ gT) (pickT t T ([] ++ [()])) (cellsV (pickT t T ([] ++ [()])) A' c')) ∧ (Blk W10 g1 24 #[.int .i64 0, .string ⟨#[]⟩, .int .i64 0, .int .i64 0, .slice none 0 0] ∧ Below w.heap.size w W10 ∧ w8.heap.size ≤ W10.heap.size)) :=
              Lib.hid ⟨⟨hsz10, fun q o hq ho _ => (hkeep q (by omega) (Array.getElem?_eq_some_iff.1 ho).1).trans ho⟩, ⟨hsz10, fun q o hq ho _ => (hkeep q (by omega) (Array.getElem?_eq_some_iff.1 ho).1).trans ho⟩, ⟨A9, c9, by show Blk W10 gT _ (cellsV T A9 c9).toArray; rw [hcvt]; exact hR10, hT10⟩, hZ9.keep (hf10 _ (by omega)), hb10, by omega⟩
            obtain ⟨⟨y0, y1, y2, y3, y4⟩, v0, v1, v2, v3, v4⟩ := hB9.five
            have hg9 := hB9.lt
            clear hR10 hf10 hB10 hT10 hkeep hb10 hsz10 hB9 hZ9 hT9 hb9 b1 b3 b4 b5 HI HREP d0 d1 d2 d3 d4 e0 e1 e2 e3 hkt hxt hat hzt hnt hnvt hcvt
            gi_wp2_with (rw [hW10])
            exact HPOST.out
          case done =>
            rintro D ys W hD hys ⟨⟨A', c', q1, q2⟩, q3, q4, q5⟩ hK
            subst hys
            obtain ⟨kt, hkt⟩ : ∃ q, T.kind = q := ⟨_, rfl⟩
            obtain ⟨xt, hxt⟩ : ∃ q, T.text = q := ⟨_, rfl⟩
            obtain ⟨at_, hat⟩ : ∃ q, T.at_ = q := ⟨_, rfl⟩
            obtain ⟨zt, hzt⟩ : ∃ q, T.end_ = q := ⟨_, rfl⟩
            obtain ⟨nt, hnt⟩ : ∃ q, T.kids.length = q := ⟨_, rfl⟩
            have hnvt : nodeV T A' c' = .agg #[.int .i64 kt, .string xt, .int .i64 at_, .int .i64 zt, .slice A' nt c'] := by unfold nodeV; rw [hkt, hxt, hat, hzt, hnt]
            have q1' : Blk W gT 24 #[.int .i64 kt, .string xt, .int .i64 at_, .int .i64 zt, .slice A' nt c'] := by
              have : Blk W gT 24 (cellsV T A' c').toArray := q1
              unfold cellsV at this
              rw [hkt, hxt, hat, hzt, hnt] at this
              exact this
            have q2' : TreeOwn W (fun q => g1 + 1 ≤ q) T (cellsV T A' c') := TreeOwn.weak (fun q _ hq => hq.1) _ _ (show TreeOwn W (fun q => g1 + 1 ≤ q ∧ q ≠ gT) T (cellsV T A' c') from q2)
            obtain ⟨W10, hW10, hR10, hB10, hF10⟩ := own_stored (w := w) q2' q4 (by have := HS.out; omega) q3 hkt hxt hat hzt hnt
            have hDlt : D < W.heap.size := (Array.getElem?_eq_some_iff.1 hK).1
            have hK10 : W10.heap[D]? = some (.deferred (some [])) := by
              rw [← hW10, Below.heap_setCell _ ⟨g1, 4, none⟩ _ D (by show D ≠ g1; omega), Below.heap_setCell _ ⟨g1, 3, none⟩ _ D (by show D ≠ g1; omega), Below.heap_setCell _ ⟨g1, 2, none⟩ _ D (by show D ≠ g1; omega), Below.heap_setCell _ ⟨g1, 1, none⟩ _ D (by show D ≠ g1; omega), Below.heap_setCell _ ⟨g1, 0, none⟩ _ D (by show D ≠ g1; omega)]
              exact hK
            have HR10 := Lib.hid hR10
            have HF10 := Lib.hid hF10
            have HK10 := Lib.hid hK10
            have HNVT := Lib.hid hnvt
            have hDw : w.heap.size ≤ D := by have := hbw8.size; omega
            obtain ⟨⟨d0, d1, d2, d3, d4⟩, -⟩ := q1'.five
            obtain ⟨⟨y0, y1, y2, y3, y4⟩, v0, v1, v2, v3, v4⟩ := q3.five
            have hlT := q1'.lt
            have hl1 := q3.lt
            clear q1 q1' q2 q2' q3 q4 q5 hkt hxt hat hzt hnt hnvt hR10 hB10 hF10 hK hK10 hR8 hT8 hZ8 hb8 hbw8 hbox hrow hg8 hg8l hnv5 hcv5
            gi_wp2_with (rw [hW10])
            obtain ⟨W11, hW11⟩ : ∃ W11, W10.putObj D (.deferred none) = W11 := ⟨_, rfl⟩
            have hR11 : Blk W11 g1 24 #[.int .i64 kt, .string xt, .int .i64 at_, .int .i64 zt, .slice A' nt c'] := by rw [← hW11]; exact HR10.out.keep (World.putObj_heap_other (by omega))
            obtain ⟨⟨x0, x1, x2, x3, x4⟩, -⟩ := hR11.five
            have HF11 : Hid (ReplRes w T (.returned (.tuple #[.agg #[.int .i64 kt, .string xt, .int .i64 at_, .int .i64 zt, .slice A' nt c'], .int .i64 0])) W11) := Lib.hid (by
              obtain ⟨A, c, h1, h2, h3⟩ := HF10.out
              cases h1
              refine ⟨_, _, by rw [HNVT.out], ?_, ?_⟩
              · rw [← hW11]
                exact treeOwn_ownFrom (β := Unit) 0 (fun _ q => w.heap.size ≤ q) (fun _ => T) (fun _ => cellsV T A' c') () W10 _ (some D) h2 (grownBy_putObj' W10 D _) (fun r e => by cases e; exact ⟨Nat.zero_le _, _, HK10.out, rfl⟩)
              · rw [← hW11]
                exact h3.trans (belowK_b (w := w) (Nat.le_refl _) W10 D _ _ hDw HK10.out rfl rfl))
            refine ⟨by simp, .inl ⟨_, _, rfl, run_takeDeferred HK10.out, ?_⟩⟩
            rw [hW11]
            refine ⟨.tuple #[.agg #[.int .i64 kt, .string xt, .int .i64 at_, .int .i64 zt, .slice A' nt c'], .int .i64 0], ?_, ?_⟩
            · simp [results, Tryz.results14, go_sem, x0, x1, x2, x3, x4]
            · rw [HT.out]
              exact HF11.out
          case stop =>
            rintro D c pre W _ _ h _
            exact h.elim
end Go.Proofs.YtfkdkbekmimhoaaGreatDoor
/- slices.Clone of ints, walked. -/
namespace Go.Proofs.YtfkdkbekmimhoaaGreatDoor
open Go.RowKit

/-- A row of ints of the call's own. -/
def IntsOwn (w : World) (lo : Nat) (A : Option Addr) (l : List Int) : Prop := ∀ (k : Nat) (v : Int), l[k]? = some v → ∃ b off, A = some ⟨b, off, none⟩ ∧ lo ≤ b ∧ b < w.heap.size ∧ w.cell? ⟨b, off + k, none⟩ = some (.int .i64 v)
theorem IntsOwn.at_ {w : World} {lo : Nat} {A : Option Addr} {l : List Int} (h : IntsOwn w lo A l) : IntsAt w w.heap.size A l := fun k v hk => by
  obtain ⟨b, off, h1, -, h2, h3⟩ := h k v hk
  exact ⟨b, off, h1, h2, h3⟩
theorem IntsOwn.set_ {w : World} {lo g j : Nat} {A : Option Addr} {l : List Int} (h : IntsOwn w lo A l) (hg : g < lo) (u : Value) : IntsOwn (w.setCell ⟨g, j, none⟩ u) lo A l := fun k v hk => by
  obtain ⟨b, off, h1, h2, h3, h4⟩ := h k v hk
  refine ⟨b, off, h1, h2, by simpa using h3, ?_⟩
  have := Below.heap_setCell w ⟨g, j, none⟩ u b (by show b ≠ g; omega)
  unfold World.cell? at h4 ⊢
  rw [this]
  exact h4
theorem IntsOwn.below {w w' : World} {lo : Nat} {A : Option Addr} {l : List Int} (h : IntsOwn w lo A l) (hb : Below w.heap.size w w') : IntsOwn w' lo A l := fun k v hk => by
  obtain ⟨b, off, h1, h2, h3, h4⟩ := h k v hk
  exact ⟨b, off, h1, h2, Nat.lt_of_lt_of_le h3 hb.size, (hb.cell (p := ⟨b, _, none⟩) h3).trans h4⟩

theorem CloneI_any (A : Option Addr) (n c : Nat) (l : List Int) (w : World) (hn : l.length = n) (h : IntsAt w w.heap.size A l) (hnb : n ≤ 1000000) :
    Calls Tryz.prog 26 #[.slice A n c] w fun e w' => ∃ A' c', e = .returned (.slice A' n c') ∧ IntsOwn w' w.heap.size A' l ∧ n ≤ c' ∧ Below w.heap.size w w' := by
  obtain ⟨i0, hi0, hz0, hz1, hz2⟩ := info_parts int_info1
  cases A with
  | none =>
    have hl : l = [] := by
      cases l with
      | nil => rfl
      | cons i l =>
        obtain ⟨b, off, h1, -⟩ := h 0 i rfl
        cases h1
    subst hl
    have hn : 0 = n := hn
    subst hn
    go_enter Tryz.func26, Tryz.ntmps26
    go_wp2_with (rw [eql_slice_nil _ _ _ Tryz.underlying28])
    go_ret
    exact ⟨none, 0, rfl, fun k v hk => by simp at hk, Nat.le_refl _, Below.refl _ _⟩
  | some ad =>
    obtain ⟨W1, hW1⟩ : ∃ W1, w.alloc (.cells #[] 3) = W1 := ⟨_, rfl⟩
    have hO : OwnS W1 w.heap.size 3 1 (.slice (some ⟨w.heap.size, 0, none⟩) 0 0) 0 [] := by
      have hb := Blk.new w 3 #[]
      rw [hW1] at hb
      exact OwnS.block (n := 0) (cur := #[]) (Nat.le_refl _) hb (by simp [maxLen]) rfl
    have hb1 : Below w.heap.size w W1 := by rw [← hW1]; exact below_alloc _ _
    obtain ⟨news, hnw⟩ : ∃ news : List Value, l.map (fun i => Value.int .i64 i) = news := ⟨_, rfl⟩
    have hnews : ∀ j u, news[j]? = some u → W1.cell? (ad.add j) = some u := fun j u hj => by
      rw [← hnw, List.getElem?_map] at hj
      cases hlj : l[j]? with
      | none => rw [hlj] at hj; cases hj
      | some i =>
        rw [hlj] at hj
        simp only [Option.map_some, Option.some.injEq] at hj
        subst hj
        obtain ⟨b, off, h2, h3, h4⟩ := h j i hlj
        cases h2
        rw [Addr.add_lit]
        exact (hb1.cell (p := ⟨b, _, none⟩) h3).trans h4
    have hone : ∀ u ∈ news, u.oneCell' = true := fun u hu => by
      rw [← hnw] at hu
      obtain ⟨i, -, rfl⟩ := List.mem_map.1 hu
      rfl
    have HO := Lib.hid hO
    have HN := Lib.hid hnews
    have H1 := Lib.hid hone
    have HL : Hid (news.length = n * 1) := Lib.hid (by rw [← hnw, List.length_map, hn, Nat.mul_one])
    have HB1 := Lib.hid hb1
    have HNW := Lib.hid hnw
    have HLN := Lib.hid hn
    have hlo : w.heap.size ≤ W1.heap.size := hb1.size
    clear hO hnews hone hb1 h hnw hn
    go_enter Tryz.func26, Tryz.ntmps26
    go_wp2_with (first | rw [hW1] | rw [eql_slice_some _ _ _ _ Tryz.underlying28] | (at_builtin; go_must (refine wpList_append_S _ rfl (.tmp 5) (.tmp 6) _ rfl (w.heap.size) 3 i0 _ 1 8 Tryz.underlying28 hi0 hz0 hz1 hz2 rfl (.slice (some ⟨w.heap.size, 0, none⟩) 0 0) 0 [] rfl HO.out ad n c news rfl HL.out HN.out H1.out (by simp only [maxLen]; omega) (by omega) hlo ?_); intro vn w7 hown hgrow hat; obtain ⟨A8, c8, hvn, -, -⟩ := hown.shape; subst hvn; have HOWN := Lib.hid hown; have HGROW := Lib.hid hgrow; clear hown hgrow hat))
    go_ret
    have hb7 : Below w.heap.size w w7 := HB1.out.grown HGROW.out hlo (fun k hk => (HO.out.lt k hk).1)
    have ho := HOWN.out
    rw [List.nil_append] at ho
    obtain ⟨A9, c9, hv9, hcap, -⟩ := ho.shape
    cases hv9
    refine ⟨A8, c8, by simp, fun k v hk => ?_, by omega, hb7⟩
    have hkl := (List.getElem?_eq_some_iff.1 hk).1
    obtain ⟨g, off, cap, hv', -, -, hlo', hg, hc⟩ := ho.form (by have := HLN.out; omega)
    cases hv'
    exact ⟨g, off, rfl, hlo', hg, hc k _ (by rw [← HNW.out, List.getElem?_map, hk]; rfl)⟩
end Go.Proofs.YtfkdkbekmimhoaaGreatDoor
/- A region that draws its order, walked in an order of one's own, with operations that need no memory at all: those may come up late, behind stores. No program is named here. -/
namespace Go.Proofs.YtfkdkbekmimhoaaGreatDoor

section
variable {P : Program} {ls : List Oper} {ops : Array Oper} {Q : Exit → Act → World → Prop} {md : Region.Mode} {S : World → Prop} {ex pu : List Nat}

/-- The k-th, so that it comes out bare. -/
def nthO : List Oper → Nat → Option Oper
  | [], _ => none
  | o :: _, 0 => some o
  | _ :: l, k + 1 => nthO l k
theorem nthO_eq : ∀ (l : List Oper) (k : Nat), nthO l k = l.toArray[k]?
  | [], k => by simp [nthO]
  | o :: l, 0 => by simp [nthO]
  | o :: l, k + 1 => by
    have := nthO_eq l k
    simp [nthO, this]

/-- Whatever order is picked from here on: the operations of 'pu' leave the world as it is; S holds behind every other one, but those of 'ex'. -/
def wpAnyU (P : Program) (md : Region.Mode) (ops : Array Oper) (Q : Exit → Act → World → Prop) (S : World → Prop) (ex pu : List Nat) : Nat → Array Bool → Act → World → Prop
  | 0, listed, a, w => Region.ready md ops listed = [] ∧ Q .normal a w
  | fuel + 1, listed, a, w =>
    (Region.ready md ops listed = [] → Q .normal a w) ∧
    ∀ i ∈ Region.ready md ops listed, wpOp P ops Q i (fun a' w' => ((i ∈ pu → w' = w) ∧ (i ∉ ex → i ∉ pu → S w')) ∧ wpAnyU P md ops Q S ex pu fuel (listed.setIfInBounds i true) a' w') a w

theorem wpAny_of_U : ∀ (fuel : Nat) (listed : Array Bool) (a : Act) (w : World), wpAnyU P md ops Q S ex pu fuel listed a w → wpAny P md ops Q fuel listed a w
  | 0, _, _, _, h => h
  | fuel + 1, _, _, _, h => ⟨h.1, fun i hi => wpOp_mono (fun a' w' h' => wpAny_of_U fuel _ a' w' h'.2) (h.2 i hi)⟩

theorem wpAnyT_softW {i : Nat} {oi : Oper} {v : Value} (hi : ops[i]? = some oi) (hsel : ∀ (j : Nat) (o : Oper) cs b, ops[j]? = some o → o.op ≠ .select cs b)
    (hQ : ∀ c a w, Q (.panic c) (a.put oi.dst v) w → Q (.panic c) a w) :
    ∀ (fuel : Nat) (listed : Array Bool) (a : Act) (w : World), (∀ j ∈ ex, listed.getD j true = true ∨ Region.waitsFor md ops j i = true) →
      (∀ j oj, ops[j]? = some oj → j ≠ i → listed.getD j true = false → (∀ e ∈ oj.after, Region.binds md e = true → e.on ≠ i) → oi.apart ops oj = true) →
      i ∈ Region.ready md ops listed → YieldsIf P ops S oi v a → S w →
      wpAnyU P md ops Q S ex pu fuel (listed.setIfInBounds i true) (a.put oi.dst v) w → wpAnyU P md ops Q S ex pu (fuel + 1) listed a w := by
  intro fuel
  induction fuel with
  | zero =>
    intro listed a w _ _ hr hy hS H
    refine ⟨fun h => (by rw [h] at hr; cases hr), fun j hj => ?_⟩
    by_cases hji : j = i
    · subst hji; exact hy.wpOp hi hS ⟨⟨fun _ => rfl, fun _ _ => hS⟩, H⟩
    · have := ready_mono hj hji
      rw [H.1] at this
      cases this
  | succ fuel ih =>
    intro listed a w hex hfree hr hy hS H
    refine ⟨fun h => (by rw [h] at hr; cases hr), fun j hj => ?_⟩
    by_cases hji : j = i
    · subst hji; exact hy.wpOp hi hS ⟨⟨fun _ => rfl, fun _ _ => hS⟩, H⟩
    · have h1 := H.2 j (ready_mono hj hji)
      obtain ⟨hjun, oj, hoj, hall⟩ := mem_ready.1 hj
      have hnot : ∀ e ∈ oj.after, Region.binds md e = true → e.on ≠ i := fun e he hb heq => by
        have h1 := hall e he hb
        have h0 := (mem_ready.1 hr).1
        rw [heq] at h1
        rcases Nat.lt_or_ge i listed.size with h' | h'
        · simp [h'] at h0 h1; rw [h0] at h1; cases h1
        · simp [Array.getElem?_eq_none h'] at h1
      have hjex : j ∉ ex := fun hm => by
        rcases hex j hm with hl | hw
        · rw [hl] at hjun; cases hjun
        · obtain ⟨oj', hj', e, he, hb, hon⟩ := Region.waitsFor_spec hw
          rw [hoj] at hj'
          cases hj'
          exact hnot e he hb hon
      have h2 := wpOp_putIf hoj (hfree j oj hoj hji hjun hnot) (fun cs b => hsel i oi cs b hi) (fun cs b => hsel j oj cs b hoj) hQ hy h1
      have hS2 : ∀ (_ : Act) (w' : World), ((j ∈ pu → w' = w) ∧ (j ∉ ex → j ∉ pu → S w')) → S w' := fun _ w' h => (Decidable.em (j ∈ pu)).elim (fun hjp => by rw [h.1 hjp]; exact hS) (fun hjp => h.2 hjex hjp)
      have hset : ∀ q, listed.getD q true = true → (listed.setIfInBounds j true).getD q true = true := fun q hq => by
        by_cases hjq : j = q
        · subst hjq; rw [hq] at hjun; cases hjun
        · rw [getD_set_ne true hjq]; exact hq
      have hfree' : ∀ k ok, ops[k]? = some ok → k ≠ i → (listed.setIfInBounds j true).getD k true = false →
          (∀ e ∈ ok.after, Region.binds md e = true → e.on ≠ i) → oi.apart ops ok = true := fun k ok hk hki hun hno => by
        refine hfree k ok hk hki ?_ hno
        by_cases hjk : j = k
        · subst hjk; exact hjun
        · rw [getD_set_ne true hjk] at hun; exact hun
      refine wpOp_mono (fun a' w' h3 => ⟨h3.2.1, ih (listed.setIfInBounds j true) a' w' (fun q hq => (hex q hq).imp (hset q) id) hfree' (ready_mono hr (Ne.symm hji)) h3.1 (hS2 a' w' h3.2.1) ?_⟩) h2
      rw [Array.setIfInBounds_comm _ _ hji]
      exact h3.2.2

theorem wpAnyT_pure {i : Nat} {oi : Oper} {v : Value} (hi : ops[i]? = some oi) (hsel : ∀ (j : Nat) (o : Oper) cs b, ops[j]? = some o → o.op ≠ .select cs b)
    (hin : i ∈ pu) (hQ : ∀ c a w, Q (.panic c) (a.put oi.dst v) w → Q (.panic c) a w) :
    ∀ (fuel : Nat) (listed : Array Bool) (a : Act) (w : World),
      (∀ j oj, ops[j]? = some oj → j ≠ i → listed.getD j true = false → (∀ e ∈ oj.after, Region.binds md e = true → e.on ≠ i) → oi.apart ops oj = true) →
      i ∈ Region.ready md ops listed → YieldsIf P ops (fun _ => True) oi v a →
      wpAnyU P md ops Q S ex pu fuel (listed.setIfInBounds i true) (a.put oi.dst v) w → wpAnyU P md ops Q S ex pu (fuel + 1) listed a w := by
  intro fuel
  induction fuel with
  | zero =>
    intro listed a w _ hr hy H
    refine ⟨fun h => (by rw [h] at hr; cases hr), fun j hj => ?_⟩
    by_cases hji : j = i
    · subst hji; exact hy.wpOp hi trivial ⟨⟨fun _ => rfl, fun _ h => absurd hin h⟩, H⟩
    · have := ready_mono hj hji
      rw [H.1] at this
      cases this
  | succ fuel ih =>
    intro listed a w hfree hr hy H
    refine ⟨fun h => (by rw [h] at hr; cases hr), fun j hj => ?_⟩
    by_cases hji : j = i
    · subst hji; exact hy.wpOp hi trivial ⟨⟨fun _ => rfl, fun _ h => absurd hin h⟩, H⟩
    · have h1 := H.2 j (ready_mono hj hji)
      obtain ⟨hjun, oj, hoj, hall⟩ := mem_ready.1 hj
      have hnot : ∀ e ∈ oj.after, Region.binds md e = true → e.on ≠ i := fun e he hb heq => by
        have h1 := hall e he hb
        have h0 := (mem_ready.1 hr).1
        rw [heq] at h1
        rcases Nat.lt_or_ge i listed.size with h' | h'
        · simp [h'] at h0 h1; rw [h0] at h1; cases h1
        · simp [Array.getElem?_eq_none h'] at h1
      have h2 := wpOp_putIf hoj (hfree j oj hoj hji hjun hnot) (fun cs b => hsel i oi cs b hi) (fun cs b => hsel j oj cs b hoj) hQ hy h1
      have hfree' : ∀ k ok, ops[k]? = some ok → k ≠ i → (listed.setIfInBounds j true).getD k true = false →
          (∀ e ∈ ok.after, Region.binds md e = true → e.on ≠ i) → oi.apart ops ok = true := fun k ok hk hki hun hno => by
        refine hfree k ok hk hki ?_ hno
        by_cases hjk : j = k
        · subst hjk; exact hjun
        · rw [getD_set_ne true hjk] at hun; exact hun
      refine wpOp_mono (fun a' w' h3 => ⟨h3.2.1, ih (listed.setIfInBounds j true) a' w' hfree' (ready_mono hr (Ne.symm hji)) h3.1 ?_⟩) h2
      rw [Array.setIfInBounds_comm _ _ hji]
      exact h3.2.2

/-- The walk in the order given: 0 hard, 1 soft, else one that needs no memory. -/
def wpHW (P : Program) (ls : List Oper) (ops : Array Oper) (Q : Exit → Act → World → Prop) (S : World → Prop) (ex : List Nat) : List (Nat × Nat) → Act → World → Prop
  | [], a, w => Q .normal a w
  | (k, 0) :: r, a, w => ∃ o, nthO ls k = some o ∧ Region.wanted o (yielded ops a.tmps) = true ∧ o.wp P a w (fun a' w' => (ex.contains k = false → S w') ∧ wpHW P ls ops Q S ex r a' w') Q
  | (k, 1) :: r, a, w => ∃ o v, nthO ls k = some o ∧ YieldsIf P ops S o v a ∧ S w ∧ wpHW P ls ops Q S ex r (a.put o.dst v) w
  | (k, _ + 2) :: r, a, w => ∃ o v, nthO ls k = some o ∧ YieldsIf P ops (fun _ => True) o v a ∧ wpHW P ls ops Q S ex r (a.put o.dst v) w

/-- May the operations come up so? -/
def heldW (md : Region.Mode) (ops : Array Oper) (ex pu : List Nat) : List (Nat × Nat) → Array Bool → Bool
  | [], listed => (Region.ready md ops listed).isEmpty
  | (k, 0) :: r, listed => (Region.ready md ops listed == [k]) && !pu.contains k && heldW md ops ex pu r (listed.setIfInBounds k true)
  | (k, 1) :: r, listed => Region.free md ops listed k && (Region.ready md ops listed).contains k && ex.all (fun j => listed.getD j true || Region.waitsFor md ops j k) && heldW md ops ex pu r (listed.setIfInBounds k true)
  | (k, _ + 2) :: r, listed => Region.free md ops listed k && (Region.ready md ops listed).contains k && pu.contains k && heldW md ops ex pu r (listed.setIfInBounds k true)

theorem wpAnyT_of_HW (he : ops = ls.toArray) (hs : Region.noSelect ops = true) (hQ : ∀ c a b w, Q (.panic c) a w → Q (.panic c) b w) : ∀ (l : List (Nat × Nat)) (listed : Array Bool) (a : Act) (w : World),
    heldW md ops ex pu l listed = true → wpHW P ls ops Q S ex l a w → wpAnyU P md ops Q S ex pu l.length listed a w := by
  intro l
  induction l with
  | nil =>
    intro listed a w hB h
    exact ⟨by simpa [heldW] using hB, by simpa [wpHW] using h⟩
  | cons x rest ih =>
    intro listed a w hB h
    obtain ⟨k, s⟩ := x
    match s with
    | 0 =>
      simp only [heldW, Bool.and_eq_true, beq_iff_eq, Bool.not_eq_true'] at hB
      obtain ⟨⟨h1, hpu⟩, h2⟩ := hB
      obtain ⟨o, hok, hg, h5⟩ := h
      rw [nthO_eq, ← he] at hok
      refine ⟨fun h0 => (by rw [h0] at h1; cases h1), fun i hi => ?_⟩
      rw [h1] at hi
      simp at hi
      subst hi
      unfold wpOp
      simp only [hok, hg, if_true]
      exact .inl (Oper.wp_mono (fun a' w' h6 => ⟨⟨fun hp => absurd hp (by simpa using hpu), fun hn _ => h6.1 (by simpa using hn)⟩, ih _ a' w' h2 h6.2⟩) h5)
    | 1 =>
      simp only [heldW, Bool.and_eq_true] at hB
      obtain ⟨⟨⟨h1, h2⟩, h3⟩, h4⟩ := hB
      obtain ⟨o, v, hok, hy, hS, h5⟩ := h
      rw [nthO_eq, ← he] at hok
      refine wpAnyT_softW hok (Region.noSelect_spec hs) (fun c a w hq => hQ c _ _ w hq) rest.length listed a w (fun j hj => ?_) (Region.free_spec hok h1) (by simpa using h2) hy hS (ih _ _ w h4 h5)
      have := List.all_eq_true.1 h3 j hj
      simpa only [Bool.or_eq_true] using this
    | n + 2 =>
      simp only [heldW, Bool.and_eq_true] at hB
      obtain ⟨⟨⟨h1, h2⟩, h3⟩, h4⟩ := hB
      obtain ⟨o, v, hok, hy, h5⟩ := h
      rw [nthO_eq, ← he] at hok
      exact wpAnyT_pure hok (Region.noSelect_spec hs) (by simpa using h3) (fun c a w hq => hQ c _ _ w hq) rest.length listed a w (Region.free_spec hok h1) (by simpa using h2) hy (ih _ _ w h4 h5)

/-- The beginning. -/
theorem wp_region_HW {id : Nat} {a : Act} {w : World} {l : List Oper} (S : World → Prop) (ex pu : List Nat) (od : List (Nat × Nat)) (hm : P.follows .mixedOrders = true) (hs : Region.noSelect l.toArray = true)
    (hl : od.length = l.length) (hB : heldW .any l.toArray ex pu od (Array.replicate l.length false) = true) (h : wpHW P l l.toArray (NoPanic Q) S ex od a w.drew) : (Code.region id l.toArray true).wp P Q a w := by
  refine wp_region_noPanic (wp_region_any hm (wpAny_of_U (S := S) (ex := ex) (pu := pu) _ _ _ _ ?_))
  have := wpAnyT_of_HW (P := P) (S := S) (md := .any) (pu := pu) rfl hs (Q := NoPanic Q) (fun c a b w hq => (hq : False).elim) od (Array.replicate l.length false) a w.drew hB h
  rw [hl] at this
  simpa using this

theorem wpHW_nil {a : Act} {w : World} (h : Q .normal a w) : wpHW P ls ops (NoPanic Q) S ex [] a w := h

theorem wpHW_soft {k : Nat} {r : List (Nat × Nat)} {o : Oper} {a : Act} {w : World} {v : Value} (ho : nthO ls k = some o) (hg : Region.wanted o (yielded ops a.tmps) = true) (hS : S w) (hy : ∀ w', S w' → (execOp a.eval o).run P w' = .ok (.value v) w')
    (h : wpHW P ls ops Q S ex r (a.put o.dst v) w) : wpHW P ls ops Q S ex ((k, 1) :: r) a w :=
  ⟨o, v, ho, .inl ⟨hg, hy⟩, hS, h⟩
theorem wpHW_pure {k : Nat} {r : List (Nat × Nat)} {o : Oper} {a : Act} {w : World} {v : Value} (ho : nthO ls k = some o) (hg : Region.wanted o (yielded ops a.tmps) = true) (hy : ∀ w', (execOp a.eval o).run P w' = .ok (.value v) w')
    (h : wpHW P ls ops Q S ex r (a.put o.dst v) w) : wpHW P ls ops Q S ex ((k, 2) :: r) a w :=
  ⟨o, v, ho, .inl ⟨hg, fun w' _ => hy w'⟩, h⟩
theorem wpHW_run {k : Nat} {r : List (Nat × Nat)} {o : Oper} {a : Act} {w w' : World} {v : Value} (ho : nthO ls k = some o) (hg : Region.wanted o (yielded ops a.tmps) = true) (hr : (execOp a.eval o).run P w = .ok (.value v) w') (hS : ex.contains k = false → S w')
    (h : wpHW P ls ops Q S ex r (a.put o.dst v) w') : wpHW P ls ops Q S ex ((k, 0) :: r) a w :=
  ⟨o, ho, hg, by unfold Oper.wp; rw [hr]; exact ⟨hS, h⟩⟩
theorem wpHW_skip {k : Nat} {r : List (Nat × Nat)} {o : Oper} {a : Act} {w w' : World} (ho : nthO ls k = some o) (hg : Region.wanted o (yielded ops a.tmps) = true) (hr : (execOp a.eval o).run P w = .ok .skip w') (hS : ex.contains k = false → S w')
    (h : wpHW P ls ops Q S ex r (a.put o.dst undef) w') : wpHW P ls ops Q S ex ((k, 0) :: r) a w :=
  ⟨o, ho, hg, by unfold Oper.wp; rw [hr]; exact ⟨hS, h⟩⟩
theorem wpHW_call {k : Nat} {r : List (Nat × Nat)} {o : Oper} {a : Act} {w : World} {f : FuncId} {args : Array Value} (ho : nthO ls k = some o) (hg : Region.wanted o (yielded ops a.tmps) = true)
    (hr : (execOp a.eval o).run P w = .ok (.enter f args) w) (h : Calls P f args w fun e w' => ∃ v, e = .returned v ∧ (ex.contains k = false → S w') ∧ wpHW P ls ops Q S ex r (a.put o.dst v) w') : wpHW P ls ops Q S ex ((k, 0) :: r) a w :=
  ⟨o, ho, hg, by unfold Oper.wp; rw [hr]; exact h.mono (fun e w' ⟨v, he, h1, h2⟩ => by subst he; exact ⟨h1, h2⟩)⟩
end
end Go.Proofs.YtfkdkbekmimhoaaGreatDoor
/- templates.Invert, walked where the edit is possible. -/
namespace Go.Proofs.YtfkdkbekmimhoaaGreatDoor
open Go.RowKit

/-- The edit that undoes an edit. -/
def invM (y : Tree) (ed : Ed) : Ed := ⟨ed.path, ed.from_, ed.from_ + (ed.new.length : Int), (y.kids.take ed.to_.toNat).drop ed.from_.toNat, ed.template, ed.choice, ed.cost⟩
def InvRes (w : World) (ed : Ed) (e : Ending) (w' : World) : Prop := ∃ Ap cp An cn, e = .returned (.tuple #[edV ed Ap cp An cn, .int .i64 0]) ∧ IntsAt w' w'.heap.size Ap ed.path ∧ ed.path.length ≤ cp ∧ KidsAt w' w'.heap.size An 0 ed.new ∧ Below w.heap.size w w'

set_option maxRecDepth 100000 in
theorem sliceN_mid (W : World) (A : Option Addr) (len cap j k : Nat) (hj : j ≤ k) (hk : k ≤ cap) : (Instr.slice 22 (.slice A len cap) (some (.int .i64 (j : Int))) (some (.int .i64 (k : Int))) none).run Tryz.prog W = .ok (.slice (if cap = j then A else A.map (·.add (j * 5))) (k - j) (cap - j)) W := by
  obtain ⟨i0, hi0, hz0, hz1, hz2⟩ := info_parts node_info
  simp [Instr.slice, run_underlying Tryz.underlying22, Instr.sliceBounds, Instr.sliceBound, asIntOf, sizeOf, typeInfo, hi0]
  rw [if_pos hk, if_pos hj, hz1]
theorem run_field_kids (c0 c1 c2 c3 c4 : Value) (w : World) : (Instr.field 24 (.agg #[c0, c1, c2, c3, c4]) 4).run Tryz.prog w = .ok c4 w := by
  have hu := Tryz.underlying24
  have hl := Tryz.underlying22
  simp [Instr.field, run_underlying hu, part, isAgg, run_underlying hl, asAgg]
theorem kids_slice {w : World} {B : Nat} {A : Option Addr} {ts : List Tree} (h : KidsAt w B A 0 ts) (fr tz cu : Nat) (hcu : ts.length ≤ cu) : KidsAt w B (if cu = fr then A else A.map (·.add (fr * 5))) 0 ((ts.take tz).drop fr) := by
  refine kids_mk fun j t hj => ?_
  rw [List.getElem?_drop, List.getElem?_take] at hj
  split at hj
  · have hl := (List.getElem?_eq_some_iff.1 hj).1
    obtain ⟨v, hv, hT⟩ := h.get (fr + j) t hj
    rw [Nat.zero_add] at hv
    rw [if_neg (by omega), Nat.zero_add]
    exact ⟨v, cells_shift hv, hT⟩
  · cases hj

set_option maxHeartbeats 8000000 in
set_option maxRecDepth 100000 in
theorem Invert_any (t y : Tree) (A : Option Addr) (c : Nat) (ed : Ed) (Ap : Option Addr) (cp : Nat) (An : Option Addr) (cn : Nat) (w : World) (hposs : possM t ed = true) (hgy : getM t ed.path = some y) (hcnt : countM t ≤ 1000000) (hk : KidsAt w w.heap.size A 0 t.kids) (hcap : t.kids.length ≤ c) (hp : IntsAt w w.heap.size Ap ed.path) (hpl : ed.path.length ≤ 1000000) (hnl : ed.new.length ≤ 1000000) :
    Calls Tryz.prog 7 #[nodeV t A c, edV ed Ap cp An cn] w (InvRes w (invM y ed)) := by
  have hposs2 := hposs
  unfold possM at hposs2
  rw [hgy] at hposs2
  simp only [Bool.and_eq_true, Bool.or_eq_true, decide_eq_true_eq] at hposs2
  obtain ⟨h0f, hft, hty, -⟩ := hposs2
  have hPoss := fun W (hb : Below w.heap.size w W) => Possible_any t A c ed Ap cp An cn W hcnt (KidsAt.mono hb.size _ _ _ (KidsAt.below hb (Nat.le_refl _) _ _ _ hk)) hcap ((hp.below hb (Nat.le_refl _)).mono hb.size) hpl
  have hGet := fun W (hb : Below w.heap.size w W) => Get_any t A c Ap ed.path.length cp ed.path W (KidsAt.mono hb.size _ _ _ (KidsAt.below hb (Nat.le_refl _) _ _ _ hk)) hcap ((hp.below hb (Nat.le_refl _)).mono hb.size) rfl hpl
  obtain ⟨path, frI, tzI, new, tm, ch, co⟩ := ed
  obtain ⟨fr, rfl⟩ : ∃ n : Nat, frI = (n : Int) := ⟨frI.toNat, (Int.toNat_of_nonneg h0f).symm⟩
  have hft : (fr : Int) ≤ tzI := hft
  obtain ⟨tz, rfl⟩ : ∃ n : Nat, tzI = (n : Int) := ⟨tzI.toNat, (Int.toNat_of_nonneg (by omega)).symm⟩
  have hft2 : fr ≤ tz := by omega
  have hty : (tz : Int) ≤ (y.kids.length : Int) := hty
  have hty2 : tz ≤ y.kids.length := by omega
  have hnl : new.length ≤ 1000000 := hnl
  have hpl : path.length ≤ 1000000 := hpl
  have hgy : getM t path = some y := hgy
  have hp : IntsAt w w.heap.size Ap path := hp
  have hib : invM y ⟨path, fr, tz, new, tm, ch, co⟩ = ⟨path, fr, (fr : Int) + (new.length : Int), (y.kids.take tz).drop fr, tm, ch, co⟩ := by
    unfold invM
    simp
  rw [hib]
  obtain ⟨np, hnp⟩ : ∃ q, path.length = q := ⟨_, rfl⟩
  obtain ⟨nn, hnn⟩ : ∃ q, new.length = q := ⟨_, rfl⟩
  obtain ⟨k, hkk⟩ : ∃ q, t.kind = q := ⟨_, rfl⟩
  obtain ⟨x, hx⟩ : ∃ q, t.text = q := ⟨_, rfl⟩
  obtain ⟨a, ha⟩ : ∃ q, t.at_ = q := ⟨_, rfl⟩
  obtain ⟨z, hz⟩ : ∃ q, t.end_ = q := ⟨_, rfl⟩
  obtain ⟨n, hn⟩ : ∃ q, t.kids.length = q := ⟨_, rfl⟩
  have hnv : nodeV t A c = .agg #[.int .i64 k, .string x, .int .i64 a, .int .i64 z, .slice A n c] := by unfold nodeV; rw [hkk, hx, ha, hz, hn]
  have hev : edV ⟨path, fr, tz, new, tm, ch, co⟩ Ap cp An cn = .agg #[.slice Ap np cp, .int .i64 fr, .int .i64 tz, .slice An nn cn, .int .i64 tm, .int .i64 ch, .int .i64 co] := by unfold edV; rw [hnp, hnn]
  rw [hposs] at hPoss
  have hGet : ∀ W, Below w.heap.size w W → Calls Tryz.prog 24 #[nodeV t A c, .slice Ap np cp] W (GetRes W t path) := fun W hb => by rw [← hnp]; exact hGet W hb
  rw [hnv, hev] at hPoss
  rw [hnv] at hGet
  rw [hnn, hnv, hev]
  rw [hnn] at hnl
  rw [hnp] at hpl
  obtain ⟨W1, hW1⟩ : ∃ W1, w.alloc (.cells #[.int .i64 k, .string x, .int .i64 a, .int .i64 z, .slice A n c] 24) = W1 := ⟨_, rfl⟩
  have hR1 : Blk W1 w.heap.size 24 #[.int .i64 k, .string x, .int .i64 a, .int .i64 z, .slice A n c] := by rw [← hW1]; exact Blk.new w _ _
  have hs1 : W1.heap.size = w.heap.size + 1 := by rw [← hW1]; simp
  have hb1 : Below w.heap.size w W1 := by rw [← hW1]; exact below_alloc _ _
  obtain ⟨W2, hW2⟩ : ∃ W2, W1.alloc (.cells #[.slice Ap np cp, .int .i64 fr, .int .i64 tz, .slice An nn cn, .int .i64 tm, .int .i64 ch, .int .i64 co] 30) = W2 := ⟨_, rfl⟩
  have hE2 : Blk W2 W1.heap.size 30 #[.slice Ap np cp, .int .i64 fr, .int .i64 tz, .slice An nn cn, .int .i64 tm, .int .i64 ch, .int .i64 co] := by rw [← hW2]; exact Blk.new W1 _ _
  have hs2 : W2.heap.size = w.heap.size + 2 := by rw [← hW2]; simp [hs1]
  have hb2 : Below w.heap.size w W2 := by rw [← hW2]; exact hb1.alloc (by omega) _
  have hR2 : Blk W2 w.heap.size 24 #[.int .i64 k, .string x, .int .i64 a, .int .i64 z, .slice A n c] := by rw [← hW2]; exact hR1.alloc _
  obtain ⟨W3, hW3⟩ : ∃ W3, W2.alloc (.cells #[.slice none 0 0, .int .i64 0, .int .i64 0, .slice none 0 0, .int .i64 0, .int .i64 0, .int .i64 0] 30) = W3 := ⟨_, rfl⟩
  have hZ3 : Blk W3 W2.heap.size 30 #[.slice none 0 0, .int .i64 0, .int .i64 0, .slice none 0 0, .int .i64 0, .int .i64 0, .int .i64 0] := by rw [← hW3]; exact Blk.new W2 _ _
  have hs3 : W3.heap.size = w.heap.size + 3 := by rw [← hW3]; simp [hs2]
  have hb3 : Below w.heap.size w W3 := by rw [← hW3]; exact hb2.alloc (by omega) _
  have hR3 : Blk W3 w.heap.size 24 #[.int .i64 k, .string x, .int .i64 a, .int .i64 z, .slice A n c] := by rw [← hW3]; exact hR2.alloc _
  have hE3 : Blk W3 W1.heap.size 30 #[.slice Ap np cp, .int .i64 fr, .int .i64 tz, .slice An nn cn, .int .i64 tm, .int .i64 ch, .int .i64 co] := by rw [← hW3]; exact hE2.alloc _
  obtain ⟨gE, hgE⟩ : ∃ g, W1.heap.size = g := ⟨_, rfl⟩
  obtain ⟨gZ, hgZ⟩ : ∃ g, W2.heap.size = g := ⟨_, rfl⟩
  rw [hgE] at hE3 hs1
  rw [hgZ] at hZ3 hs2
  obtain ⟨⟨t0, t1, t2, t3, t4⟩, -⟩ := hR3.five
  obtain ⟨⟨e0, e1, e2, e3, e4, e5, e6⟩, -⟩ := hE3.seven
  have hPossC := hPoss W3 hb3
  have HPC := Lib.hid hPossC
  have HG := Lib.hid hGet
  have HR := Lib.hid hR3
  have HE := Lib.hid hE3
  have HZ := Lib.hid hZ3
  have HB3 := Lib.hid hb3
  have HS : Hid (gE = w.heap.size + 1 ∧ gZ = w.heap.size + 2 ∧ W3.heap.size = w.heap.size + 3) := Lib.hid ⟨hs1, hs2, hs3⟩
  have hyc := getM_count path t y hgy
  have HY := Lib.hid (And.intro hgy (And.intro hft2 (And.intro hty2 (Nat.le_trans hyc hcnt))))
  have HP := Lib.hid (And.intro hp (And.intro hnp hnn))
  have hlw : w.heap.size < W3.heap.size := by omega
  have hlE : gE < W3.heap.size := by omega
  clear hPoss hGet hPossC hR1 hs1 hb1 hE2 hs2 hb2 hR2 hZ3 hs3 hb3 hR3 hE3 hk hcap hp hgy hcnt hposs hyc hnv hev hib hkk hx ha hz hn hty hty2 hnn hnp hft hft2 h0f
  go_enter Tryz.func7, Tryz.ntmps7
  go_wp2_with (first | rw [hW1] | rw [hW2] | rw [hW3] | rw [hgE] | rw [hgZ])
  refine HPC.out.mono ?_
  rintro e w4 ⟨rfl, hb4⟩
  have hR4 := HR.out.below hb4 HR.out.lt
  have hE4 := HE.out.below hb4 HE.out.lt
  have hbw4 := HB3.out.trans (hb4.mono HB3.out.size)
  have HG4 := Lib.hid (HG.out w4 hbw4)
  clear t0 t1 t2 t3 t4 e0 e1 e2 e3 e4 e5 e6 hW1 hW2 hW3 hgE hgZ
  obtain ⟨⟨t0, t1, t2, t3, t4⟩, -⟩ := hR4.five
  obtain ⟨⟨e0, e1, e2, e3, e4, e5, e6⟩, -⟩ := hE4.seven
  have hlw4 := hR4.lt
  have hlE4 := hE4.lt
  have HB4 := Lib.hid hb4
  clear hR4 hE4 hb4 hbw4
  go_wp2_with fail
  refine HG4.out.mono ?_
  rintro e w5 ⟨hb5, h | ⟨u, Au, cu, hgu, hku, hcu, rfl⟩⟩
  · have := HY.out.1
    rw [h.1] at this
    cases this
  have := hgu.symm.trans HY.out.1
  cases this
  clear hgu
  obtain ⟨-, hft, hty, hyc⟩ := HY.out
  obtain ⟨ky, hky⟩ : ∃ q, y.kind = q := ⟨_, rfl⟩
  obtain ⟨xy, hxy⟩ : ∃ q, y.text = q := ⟨_, rfl⟩
  obtain ⟨ay, hay⟩ : ∃ q, y.at_ = q := ⟨_, rfl⟩
  obtain ⟨zy, hzy⟩ : ∃ q, y.end_ = q := ⟨_, rfl⟩
  obtain ⟨ny, hny⟩ : ∃ q, y.kids.length = q := ⟨_, rfl⟩
  have hnvy : nodeV y Au cu = .agg #[.int .i64 ky, .string xy, .int .i64 ay, .int .i64 zy, .slice Au ny cu] := by unfold nodeV; rw [hky, hxy, hay, hzy, hny]
  rw [hnvy]
  obtain ⟨W6, hW6⟩ : ∃ W6, w5.alloc (.cells #[.int .i64 0, .string ⟨#[]⟩, .int .i64 0, .int .i64 0, .slice none 0 0] 24) = W6 := ⟨_, rfl⟩
  have hR6 : Blk W6 w5.heap.size 24 #[.int .i64 0, .string ⟨#[]⟩, .int .i64 0, .int .i64 0, .slice none 0 0] := by rw [← hW6]; exact Blk.new w5 _ _
  have hb6 : Below w5.heap.size w5 W6 := by rw [← hW6]; exact below_alloc _ _
  obtain ⟨W7, hW7, hR7, hf7, hB7⟩ := stored5 (a := .int .i64 ky) (b := .string xy) (c := .int .i64 ay) (d := .int .i64 zy) (e := .slice Au ny cu) hR6
  have hb7 := hB7 _ _ hb6 (Nat.le_refl _)
  have hb47 : Below w4.heap.size w4 W7 := hb5.trans (hb7.mono hb5.size)
  have hb37 : Below W3.heap.size W3 W7 := HB4.out.trans (hb47.mono HB4.out.size)
  have hE7 := HE.out.below hb37 HE.out.lt
  have hlE7 := hE7.lt
  obtain ⟨⟨f0, f1, f2, f3, f4, f5, f6⟩, -⟩ := hE7.seven
  obtain ⟨⟨y0, y1, y2, y3, y4⟩, v0, v1, v2, v3, v4⟩ := hR6.five
  obtain ⟨⟨z0, z1, z2, z3, z4⟩, -⟩ := hR7.five
  have hl7 := hR7.lt
  obtain ⟨olds, hol⟩ : ∃ l, (y.kids.take tz).drop fr = l := ⟨_, rfl⟩
  have hoK : KidsAt W7 W7.heap.size (if cu = fr then Au else Au.map (·.add (fr * 5))) 0 olds := by
    rw [← hol]
    exact KidsAt.mono hb47.size _ _ _ (KidsAt.below hb47 (Nat.le_refl _) _ _ _ (kids_slice hku fr tz cu hcu))
  have holn : olds.length = tz - fr := by rw [← hol, List.length_drop, List.length_take]; omega
  have hocn : countM (.node 0 ⟨#[]⟩ 0 0 olds) ≤ 1000000 := by
    have h1 := countsM_drop (y.kids.take tz) fr
    have h2 := countsM_le y.kids tz
    have h3 := countM_eq y
    rw [hol] at h1
    have : countM (.node 0 ⟨#[]⟩ 0 0 olds) = 1 + countsM olds := rfl
    omega
  have hnv0 : ∀ A c, nodeV (.node 0 ⟨#[]⟩ 0 0 olds) A c = .agg #[.int .i64 0, .string ⟨#[]⟩, .int .i64 0, .int .i64 0, .slice A (tz - fr) c] := fun A c => by rw [← holn]; rfl
  have hcop : ∀ A c, KidsAt W7 W7.heap.size A 0 olds → Calls Tryz.prog 25 #[.agg #[.int .i64 0, .string ⟨#[]⟩, .int .i64 0, .int .i64 0, .slice A (tz - fr) c]] W7 (OwnRes W7 (.node 0 ⟨#[]⟩ 0 0 olds)) := fun A c h => by
    rw [← hnv0]
    exact copied_any (.node 0 ⟨#[]⟩ 0 0 olds) A c W7 hocn h
  have HCOP := Lib.hid hcop
  have HOK := Lib.hid hoK
  have HNV0 := Lib.hid hnv0
  have hfr2 : (0 : Int) ≤ (fr : Int) := by omega
  have htc : tz ≤ cu := by omega
  have HOL := Lib.hid (And.intro hol holn)
  have HE7 := Lib.hid (And.intro hE7 hb37)
  clear hR6 hb6 hR7 hf7 hB7 hb7 hb47 hb37 hE7 hoK holn hocn hcop hnv0 hol hku hcu hky hxy hay hzy hny hnvy hyc hb5
  go_wp2_with (first | rw [hW6] | rw [hW7])
  all_goals
    refine (HCOP.out _ _ (by first | (have h := HOK.out; rw [if_neg (by assumption)] at h; exact h) | (have h := HOK.out; rw [if_pos (by assumption)] at h; exact h))).mono ?_
    rintro e w8 ⟨A9, c9, rfl, hT9, hb9⟩
    rw [HNV0.out]
    obtain ⟨hE7, hb37⟩ := HE7.out
    have hE8 := hE7.below hb9 hE7.lt
    have hb38 : Below W3.heap.size W3 w8 := hb37.trans (hb9.mono hb37.size)
    have hbw8 : Below w.heap.size w w8 := HB3.out.trans (hb38.mono HB3.out.size)
    have hT8 : TreeOwn w8 (fun q => gZ + 1 ≤ q) (.node 0 ⟨#[]⟩ 0 0 olds) (cellsV (.node 0 ⟨#[]⟩ 0 0 olds) A9 c9) := TreeOwn.weak (fun q _ hq => by have := hb37.size; have := HS.out; omega) _ _ hT9
    have hclo := CloneI_any Ap np cp path w8.drew HP.out.2.1 ((HP.out.1.below hbw8.drew (Nat.le_refl _)).mono hbw8.size) hpl
    have HCLO := Lib.hid hclo
    have HK8 := Lib.hid (And.intro hE8 (And.intro hb38 (And.intro hbw8 hT8)))
    have hS0 : w8.drew.cell? ⟨gE, 0, none⟩ = some (.slice Ap np cp) ∧ w8.drew.cell? ⟨gE, 1, none⟩ = some (.int .i64 fr) ∧ w8.drew.cell? ⟨gE, 3, none⟩ = some (.slice An nn cn) := ⟨hE8.cell 0, hE8.cell 1, hE8.cell 3⟩
    have hfr6 : fr ≤ 1000000 := by
      have h1 := HY.out.2.2.2
      have h2 := countM_eq y
      have h3 := counts_len y.kids
      have h4 := HY.out.2.2.1
      omega
    have hw64 : IntKind.i64.wrap ((fr : Int) + (nn : Int)) = (fr : Int) + (nn : Int) := IntWalk.i64_in _ (by omega)
    clear hE7 hb37 hE8 hb38 hbw8 hT8 hT9 hb9 hclo f0 f1 f2 f3 f4 f5 f6 y0 y1 y2 y3 y4 v0 v1 v2 v3 v4 z0 z1 z2 z3 z4 t0 t1 t2 t3 t4 e0 e1 e2 e3 e4 e5 e6
    go_wp2_with (rw [run_field_kids])
    refine wp_region_HW (fun W => W.cell? ⟨gE, 0, none⟩ = some (.slice Ap np cp) ∧ W.cell? ⟨gE, 1, none⟩ = some (.int .i64 fr) ∧ W.cell? ⟨gE, 3, none⟩ = some (.slice An nn cn)) [11, 12, 13, 14, 15] [7, 8, 9] [(9, 2), (0, 1), (1, 1), (3, 1), (4, 1), (5, 1), (6, 1), (7, 2), (8, 2), (2, 0), (10, 0), (11, 0), (12, 0), (13, 0), (14, 0), (15, 0)] (by kernel_rfl) (by kernel_rfl) rfl (by kernel_rfl) ?_
    refine wpHW_pure rfl rfl (by intro w'; go_simp; rfl) ?_
    simp only [Act.put, List.setIfInBounds_toArray, List.set_cons_zero, List.set_cons_succ]
    refine wpHW_soft rfl rfl hS0 (by intro w' hSw; obtain ⟨s0, s1, s2⟩ := hSw; go_simp; rfl) ?_
    simp only [Act.put, List.setIfInBounds_toArray, List.set_cons_zero, List.set_cons_succ]
    refine wpHW_soft rfl rfl hS0 (by intro w' hSw; obtain ⟨s0, s1, s2⟩ := hSw; go_simp; rfl) ?_
    simp only [Act.put, List.setIfInBounds_toArray, List.set_cons_zero, List.set_cons_succ]
    refine wpHW_soft rfl rfl hS0 (by intro w' hSw; obtain ⟨s0, s1, s2⟩ := hSw; go_simp; rfl) ?_
    simp only [Act.put, List.setIfInBounds_toArray, List.set_cons_zero, List.set_cons_succ]
    refine wpHW_soft rfl rfl hS0 (by intro w' hSw; obtain ⟨s0, s1, s2⟩ := hSw; go_simp; rfl) ?_
    simp only [Act.put, List.setIfInBounds_toArray, List.set_cons_zero, List.set_cons_succ]
    refine wpHW_soft rfl rfl hS0 (by intro w' hSw; obtain ⟨s0, s1, s2⟩ := hSw; go_simp; rfl) ?_
    simp only [Act.put, List.setIfInBounds_toArray, List.set_cons_zero, List.set_cons_succ]
    refine wpHW_soft rfl rfl hS0 (by intro w' hSw; obtain ⟨s0, s1, s2⟩ := hSw; go_simp; rfl) ?_
    simp only [Act.put, List.setIfInBounds_toArray, List.set_cons_zero, List.set_cons_succ]
    refine wpHW_pure rfl rfl (by intro w'; go_simp; rfl) ?_
    simp only [Act.put, List.setIfInBounds_toArray, List.set_cons_zero, List.set_cons_succ]
    refine wpHW_pure rfl rfl (by intro w'; go_simp; rfl) ?_
    simp only [Act.put, List.setIfInBounds_toArray, List.set_cons_zero, List.set_cons_succ]
    refine wpHW_call rfl rfl (by go_simp) (HCLO.out.mono ?_)
    rintro e w9 ⟨Ap9, cp9, rfl, hI9, hcp9, hb9⟩
    obtain ⟨hE8, hb38, hbw8, hT8⟩ := HK8.out
    have hE9 : Blk w9 gE 30 #[.slice Ap np cp, .int .i64 fr, .int .i64 tz, .slice An nn cn, .int .i64 tm, .int .i64 ch, .int .i64 co] := hE8.drew.below hb9 hE8.lt
    have hS9 : w9.cell? ⟨gE, 0, none⟩ = some (.slice Ap np cp) ∧ w9.cell? ⟨gE, 1, none⟩ = some (.int .i64 fr) ∧ w9.cell? ⟨gE, 3, none⟩ = some (.slice An nn cn) := ⟨hE9.cell 0, hE9.cell 1, hE9.cell 3⟩
    have hb39 : Below W3.heap.size W3 w9 := hb38.drew.trans (hb9.mono hb38.size)
    have hZ9 := HZ.out.below hb39 HZ.out.lt
    have hbw9 : Below w.heap.size w w9 := HB3.out.trans (hb39.mono HB3.out.size)
    have hT9 : TreeOwn w9 (fun q => gZ + 1 ≤ q) (.node 0 ⟨#[]⟩ 0 0 olds) (cellsV (.node 0 ⟨#[]⟩ 0 0 olds) A9 c9) := TreeOwn.keeps (KeepsN.of_below ((Below.refl w8.heap.size w8).drew.trans hb9)) _ _ hT8
    refine ⟨_, rfl, fun _ => hS9, ?_⟩
    simp only [Act.put, List.setIfInBounds_toArray, List.set_cons_zero, List.set_cons_succ]
    refine wpHW_run (v := .pointer (some ⟨gE, 0, none⟩)) (w' := w9) rfl rfl (by go_simp) (fun _ => hS9) ?_
    simp only [Act.put, List.setIfInBounds_toArray, List.set_cons_zero, List.set_cons_succ]
    obtain ⟨W10, hW10⟩ : ∃ W10, w9.setCell ⟨gE, 0, none⟩ (.slice Ap9 np cp9) = W10 := ⟨_, rfl⟩
    have hE10 : Blk W10 gE 30 #[.slice Ap9 np cp9, .int .i64 fr, .int .i64 tz, .slice An nn cn, .int .i64 tm, .int .i64 ch, .int .i64 co] := by
      have := hE9.set_ 0 (.slice Ap9 np cp9)
      rw [hW10] at this
      simpa using this
    have g0 := hE9.frozen 0
    refine wpHW_skip (w' := W10) rfl rfl (by go_simp) (fun h => by simp at h) ?_
    simp only [Act.put]
    refine wpHW_run (v := .pointer (some ⟨gE, 2, none⟩)) (w' := W10) rfl rfl (by go_simp) (fun h => by simp at h) ?_
    simp only [Act.put, List.setIfInBounds_toArray, List.set_cons_zero, List.set_cons_succ]
    obtain ⟨W11, hW11⟩ : ∃ W11, W10.setCell ⟨gE, 2, none⟩ (.int .i64 ((fr : Int) + (nn : Int))) = W11 := ⟨_, rfl⟩
    have hE11 : Blk W11 gE 30 #[.slice Ap9 np cp9, .int .i64 fr, .int .i64 ((fr : Int) + (nn : Int)), .slice An nn cn, .int .i64 tm, .int .i64 ch, .int .i64 co] := by
      have := hE10.set_ 2 (.int .i64 ((fr : Int) + (nn : Int)))
      rw [hW11] at this
      simpa using this
    have g2 := hE10.frozen 2
    have g2c : W10.cell? ⟨gE, 2, none⟩ = some (.int .i64 tz) := hE10.cell 2
    refine wpHW_skip (w' := W11) rfl rfl (by go_simp) (fun h => by simp at h) ?_
    simp only [Act.put]
    refine wpHW_run (v := .pointer (some ⟨gE, 3, none⟩)) (w' := W11) rfl rfl (by go_simp) (fun h => by simp at h) ?_
    simp only [Act.put]
    obtain ⟨W12, hW12⟩ : ∃ W12, W11.setCell ⟨gE, 3, none⟩ (.slice A9 (tz - fr) c9) = W12 := ⟨_, rfl⟩
    have hE12 : Blk W12 gE 30 #[.slice Ap9 np cp9, .int .i64 fr, .int .i64 ((fr : Int) + (nn : Int)), .slice A9 (tz - fr) c9, .int .i64 tm, .int .i64 ch, .int .i64 co] := by
      have := hE11.set_ 3 (.slice A9 (tz - fr) c9)
      rw [hW12] at this
      simpa using this
    have g3 := hE11.frozen 3
    have g3c : W11.cell? ⟨gE, 3, none⟩ = some (.slice An nn cn) := hE11.cell 3
    refine wpHW_skip (w' := W12) rfl rfl (by go_simp) (fun h => by simp at h) ?_
    simp only [Act.put]
    refine wpHW_nil ?_
    have hHS := HS.out
    have hs39 := hb39.size
    have hZ12 : Blk W12 gZ 30 #[.slice none 0 0, .int .i64 0, .int .i64 0, .slice none 0 0, .int .i64 0, .int .i64 0, .int .i64 0] := by
      rw [← hW12, ← hW11, ← hW10]
      exact ((hZ9.far (by show gZ ≠ gE; omega) _).far (by show gZ ≠ gE; omega) _).far (by show gZ ≠ gE; omega) _
    have hbw12 : Below w.heap.size w W12 := by
      rw [← hW12, ← hW11, ← hW10]
      exact ((hbw9.setCell (p := ⟨gE, 0, none⟩) (by show w.heap.size ≤ gE; omega) _).setCell (p := ⟨gE, 2, none⟩) (by show w.heap.size ≤ gE; omega) _).setCell (p := ⟨gE, 3, none⟩) (by show w.heap.size ≤ gE; omega) _
    have hT12 : TreeOwn W12 (fun q => gZ + 1 ≤ q) (.node 0 ⟨#[]⟩ 0 0 olds) (cellsV (.node 0 ⟨#[]⟩ 0 0 olds) A9 c9) := by
      rw [← hW12, ← hW11, ← hW10]
      exact TreeOwn.keeps (((keeps_set (by omega) _ _ _).trans (keeps_set (by omega) _ _ _)).trans (keeps_set (by omega) _ _ _)) _ _ hT9
    have hI12 : IntsOwn W12 w8.heap.size Ap9 path := by
      have hs8 := hb38.size
      rw [← hW12, ← hW11, ← hW10]
      exact ((IntsOwn.set_ hI9 (by show gE < w8.heap.size; omega) _).set_ (by show gE < w8.heap.size; omega) _).set_ (by show gE < w8.heap.size; omega) _
    obtain ⟨W13, hW13, hR13, hf13, hB13⟩ := stored7 (a := .slice Ap9 np cp9) (b := .int .i64 fr) (c := .int .i64 ((fr : Int) + (nn : Int))) (d := .slice A9 (tz - fr) c9) (e := .int .i64 tm) (f := .int .i64 ch) (h := .int .i64 co) hZ12
    have hbw13 := hB13 _ _ hbw12 (by omega)
    have hT13 : TreeOwn W13 (fun q => gZ + 1 ≤ q) (.node 0 ⟨#[]⟩ 0 0 olds) (cellsV (.node 0 ⟨#[]⟩ 0 0 olds) A9 c9) := TreeOwn.keeps (fun q _ hq _ => hf13 q (by omega)) _ _ hT12
    have hI13 : IntsAt W13 W13.heap.size Ap9 path := by
      have hs8 := hb38.size
      rw [← hW13]
      exact (((((((IntsOwn.set_ hI12 (by show gZ < w8.heap.size; omega) _).set_ (by show gZ < w8.heap.size; omega) _).set_ (by show gZ < w8.heap.size; omega) _).set_ (by show gZ < w8.heap.size; omega) _).set_ (by show gZ < w8.heap.size; omega) _).set_ (by show gZ < w8.heap.size; omega) _).set_ (by show gZ < w8.heap.size; omega) _).at_
    have HR13 := Lib.hid hR13
    have HF : Hid (InvRes w ⟨path, fr, (fr : Int) + (nn : Int), (y.kids.take tz).drop fr, tm, ch, co⟩ (.returned (.tuple #[.agg #[.slice Ap9 np cp9, .int .i64 fr, .int .i64 ((fr : Int) + (nn : Int)), .slice A9 (tz - fr) c9, .int .i64 tm, .int .i64 ch, .int .i64 co], .int .i64 0])) W13) := Lib.hid ⟨Ap9, cp9, A9, c9, by
        unfold edV
        show _ = Ending.returned (.tuple #[.agg #[.slice Ap9 path.length cp9, .int .i64 fr, .int .i64 ((fr : Int) + (nn : Int)), .slice A9 ((y.kids.take tz).drop fr).length c9, .int .i64 tm, .int .i64 ch, .int .i64 co], .int .i64 0])
        rw [HP.out.2.1, HOL.out.1, HOL.out.2], hI13, by show path.length ≤ cp9; rw [HP.out.2.1]; exact hcp9, by
        show KidsAt W13 W13.heap.size A9 0 ((y.kids.take tz).drop fr)
        rw [HOL.out.1]
        exact (TreeOwn.kids (t := .node 0 ⟨#[]⟩ 0 0 olds) hT13).1, hbw13⟩
    obtain ⟨⟨p0, p1, p2, p3, p4, p5, p6⟩, -⟩ := hE12.seven
    obtain ⟨⟨q0, q1, q2, q3, q4, q5, q6⟩, r0, r1, r2, r3, r4, r5, r6⟩ := hZ12.seven
    have hlE12 := hE12.lt
    have hlZ12 := hZ12.lt
    clear hHS hR13 hI13 hT13 hbw13 hf13 hB13 hI12 hT12 hbw12 hZ12 hE12 hE11 hE10 hE9 hS9 hZ9 hbw9 hT9 hT8 hbw8 hb38 hE8 hI9 hb9 hb39 hs39 hS0 g0 g2 g2c g3 g3c hW10 hW11 hW12
    go_wp2_with (rw [hW13])
    obtain ⟨⟨x0, x1, x2, x3, x4, x5, x6⟩, -⟩ := HR13.out.seven
    clear p0 p1 p2 p3 p4 p5 p6 q0 q1 q2 q3 q4 q5 q6 r0 r1 r2 r3 r4 r5 r6 hW13
    apply bodyPost_ret (v := .tuple #[.agg #[.slice Ap9 np cp9, .int .i64 fr, .int .i64 ((fr : Int) + (nn : Int)), .slice A9 (tz - fr) c9, .int .i64 tm, .int .i64 ch, .int .i64 co], .int .i64 0])
    · simp [results, Tryz.results7, go_sem, x0, x1, x2, x3, x4, x5, x6]
    · rfl
    exact HF.out
end Go.Proofs.YtfkdkbekmimhoaaGreatDoor
/- The reference's Few, and the law's few, at one edit: walked. -/
namespace Go.Proofs.YtfkdkbekmimhoaaGreatDoor
open Go.RowKit

def fewM (ed : Ed) : Bool := decide (ed.path.length ≤ 12) && (decide (ed.new.length ≤ 4) && ed.new.all (fun t => smallM t 30))

set_option maxHeartbeats 8000000 in
set_option maxRecDepth 100000 in
theorem Few_any (ed : Ed) (Ap : Option Addr) (cp : Nat) (An : Option Addr) (cn be oe ce : Nat) (w : World) (hcnt : countsM ed.new ≤ 1000000) (hkn : KidsAt w w.heap.size An 0 ed.new) (hbe : be < w.heap.size)
    (hce : ∀ j v, (edC ed Ap cp An cn)[j]? = some v → w.cell? ⟨be, oe + j, none⟩ = some v) :
    Calls Tryz.prog 23 #[.slice (some ⟨be, oe, none⟩) 1 ce, .int .i64 8] w fun e w' => e = .returned (.bool (fewM ed)) ∧ Below w.heap.size w w' := by
  obtain ⟨path, fr, tz, new, tm, ch, co⟩ := ed
  have hkn : KidsAt w w.heap.size An 0 new := hkn
  have hcnt : countsM new ≤ 1000000 := hcnt
  obtain ⟨np, hnp⟩ : ∃ q, path.length = q := ⟨_, rfl⟩
  obtain ⟨nn, hnn⟩ : ∃ q, new.length = q := ⟨_, rfl⟩
  have hec : edC ⟨path, fr, tz, new, tm, ch, co⟩ Ap cp An cn = [.slice Ap np cp, .int .i64 fr, .int .i64 tz, .slice An nn cn, .int .i64 tm, .int .i64 ch, .int .i64 co] := by unfold edC; rw [hnp, hnn]
  rw [hec] at hce
  have hfm : fewM ⟨path, fr, tz, new, tm, ch, co⟩ = (decide (np ≤ 12) && (decide (nn ≤ 4) && new.all (fun t => smallM t 30))) := by unfold fewM; rw [hnp, hnn]
  obtain ⟨R, hR⟩ : ∃ R, fewM ⟨path, fr, tz, new, tm, ch, co⟩ = R := ⟨_, rfl⟩
  rw [hR] at hfm ⊢
  have HR := Lib.hid hfm
  have HK := Lib.hid hkn
  have HCE := Lib.hid hce
  have HN := Lib.hid (And.intro hnn hcnt)
  clear hkn hce hcnt hnp hnn hec hR hfm
  go_enter Tryz.func23, Tryz.ntmps23
  go_wp2_with fail
  go_loopg [5] 1 (fun gk s5 wr => ∃ i : Nat, i + gk = 1 ∧ s5 = .int .i64 (i : Int) ∧ Hid (Below w.heap.size w wr ∧ (i = 1 → R = true)))
  case atStart => exact ⟨0, by omega, rfl, Lib.hid ⟨Below.refl _ _, fun h => by cases h⟩⟩
  case round =>
    obtain ⟨i, hi, rfl, HB⟩ := hrel
    have HI := Lib.hid hi
    by_cases hlt : i < 1
    · have hi0 : i = 0 := by omega
      subst hi0
      have hb := HB.out.1
      have hbl : be < wr.heap.size := Nat.lt_of_lt_of_le hbe hb.size
      have r0 : wr.cell? ⟨be, oe, none⟩ = some (.slice Ap np cp) := (hb.cell (p := ⟨be, _, none⟩) hbe).trans (by simpa using HCE.out 0 _ rfl)
      have r3 : wr.cell? ⟨be, oe + 3, none⟩ = some (.slice An nn cn) := (hb.cell (p := ⟨be, _, none⟩) hbe).trans (HCE.out 3 _ rfl)
      clear hb hi
      by_cases h12 : np ≤ 12
      · by_cases h4 : nn ≤ 4
        · have q1 : ¬ (np : Int) > 12 := by omega
          have q2 : ¬ (nn : Int) > 4 := by omega
          have q1' : ¬ (12 : Int) < (np : Int) := by omega
          have q2' : ¬ (4 : Int) < (nn : Int) := by omega
          have hra : new.all (fun t => smallM t 30) = R := by rw [HR.out, decide_eq_true h12, decide_eq_true h4]; rfl
          have HRA := Lib.hid hra
          clear hra
          obtain ⟨wo, hwo⟩ : ∃ wo : World, wo = wr := ⟨_, rfl⟩
          subst hwo
          obtain ⟨gko, hgko⟩ : ∃ g : Nat, g = gk := ⟨_, rfl⟩
          subst hgko
          go_wp2_with fail
          go_loopg [6] nn (fun gk s6 wr => ∃ k : Nat, k + gk = nn ∧ s6 = .int .i64 (k : Int) ∧ Hid (Below w.heap.size w wr ∧ (new.drop k).all (fun t => smallM t 30) = R))
          case atStart => exact ⟨0, by omega, rfl, Lib.hid ⟨HB.out.1, by simpa using HRA.out⟩⟩
          case round =>
            obtain ⟨k, hk, rfl, HB2⟩ := hrel
            have HKK := Lib.hid hk
            have hkn : k ≤ nn := by omega
            clear r0 r3 hbl hk
            have hb := HB2.out.1
            have hbl : be < wr.heap.size := Nat.lt_of_lt_of_le hbe hb.size
            have r0 : wr.cell? ⟨be, oe, none⟩ = some (.slice Ap np cp) := (hb.cell (p := ⟨be, _, none⟩) hbe).trans (by simpa using HCE.out 0 _ rfl)
            have r3 : wr.cell? ⟨be, oe + 3, none⟩ = some (.slice An nn cn) := (hb.cell (p := ⟨be, _, none⟩) hbe).trans (HCE.out 3 _ rfl)
            by_cases hltk : k < nn
            · have hltk' : (k : Int) < (nn : Int) := by omega
              obtain ⟨u, hu⟩ : ∃ u, new[k]? = some u := ⟨_, List.getElem?_eq_getElem (by rw [HN.out.1]; exact hltk)⟩
              obtain ⟨kv, ⟨b, off, hA, hbo, hcs⟩, hT⟩ := HK.out.get k u hu
              subst hA
              obtain ⟨Ak, ck, hkv, hKu⟩ := hT.five
              subst hkv
              have hTc := hT.cap
              have z0 : wr.cell? ⟨b, off + k * 5, none⟩ = some (.int .i64 u.kind) := (hb.cell (p := ⟨b, _, none⟩) hbo).trans (by simpa using hcs 0 _ rfl)
              have z1 : wr.cell? ⟨b, off + k * 5 + 1, none⟩ = some (.string u.text) := (hb.cell (p := ⟨b, _, none⟩) hbo).trans (by simpa using hcs 1 _ rfl)
              have z2 : wr.cell? ⟨b, off + k * 5 + 2, none⟩ = some (.int .i64 u.at_) := (hb.cell (p := ⟨b, _, none⟩) hbo).trans (by simpa using hcs 2 _ rfl)
              have z3 : wr.cell? ⟨b, off + k * 5 + 3, none⟩ = some (.int .i64 u.end_) := (hb.cell (p := ⟨b, _, none⟩) hbo).trans (by simpa using hcs 3 _ rfl)
              have z4 : wr.cell? ⟨b, off + k * 5 + 4, none⟩ = some (.slice Ak u.kids.length ck) := (hb.cell (p := ⟨b, _, none⟩) hbo).trans (by simpa using hcs 4 _ rfl)
              have hbb : b < wr.heap.size := Nat.lt_of_lt_of_le hbo hb.size
              have hucnt : countM u ≤ 1000000 := Nat.le_trans (countsM_mem hu) HN.out.2
              have hsm := Small_any u Ak ck 30 wr hucnt hTc (KidsAt.mono hb.size _ _ _ (KidsAt.below hb (Nat.le_refl _) _ _ _ hKu))
              unfold nodeV at hsm
              have hgl := HB2.out.2
              rw [all_drop hu] at hgl
              obtain ⟨sb, hsb⟩ : ∃ q, smallM u 30 = q := ⟨_, rfl⟩
              rw [hsb] at hsm hgl
              obtain ⟨nu, hnu⟩ : ∃ q, u.kids.length = q := ⟨_, rfl⟩
              obtain ⟨ku, hku⟩ : ∃ q, u.kind = q := ⟨_, rfl⟩
              obtain ⟨xu, hxu⟩ : ∃ q, u.text = q := ⟨_, rfl⟩
              obtain ⟨au, hau⟩ : ∃ q, u.at_ = q := ⟨_, rfl⟩
              obtain ⟨zu, hzu⟩ : ∃ q, u.end_ = q := ⟨_, rfl⟩
              rw [hku] at z0
              rw [hxu] at z1
              rw [hau] at z2
              rw [hzu] at z3
              rw [hnu] at z4
              rw [hku, hxu, hau, hzu, hnu] at hsm
              have HSM := Lib.hid hsm
              have HGL := Lib.hid hgl
              have hk0 : ¬ (k : Int) < 0 := by omega
              have hwr : IntKind.i64.wrap ((k : Int) + 1) = (k : Int) + 1 := IntWalk.i64_in _ (by omega)
              clear hu hcs hT hTc hKu hucnt hsm hgl hsb hnu hku hxu hau hzu hb
              go_wp2_with fail
              refine HSM.out.mono ?_
              rintro e w5 ⟨rfl, hb5⟩
              have HB5 := Lib.hid (HB2.out.1.trans (hb5.mono HB2.out.1.size))
              clear z0 z1 z2 z3 z4 r0 r3 hb5
              have hgl := HGL.out
              rcases Bool.eq_false_or_eq_true sb with rfl | rfl
              · rw [Bool.true_and] at hgl
                have HGL2 := Lib.hid hgl
                clear hgl
                go_wp2_with fail
                go_roundg (gk - 1)
                case measure => have := HKK.out; omega
                case rel => exact ⟨k + 1, by have := HKK.out; omega, by simp, Lib.hid ⟨HB5.out, HGL2.out⟩⟩
              · rw [Bool.false_and] at hgl
                subst hgl
                go_wp2_with fail
                go_ret
                exact ⟨rfl, HB5.out⟩
            · have hke : k = nn := by omega
              subst hke
              have hrt : R = true := by
                have := HB2.out.2
                rw [List.drop_of_length_le (by rw [HN.out.1]; exact Nat.le_refl _)] at this
                exact this.symm
              clear hb
              go_wp2_with fail
              go_roundg (gko - 1)
              case measure => have := HI.out; omega
              case rel => exact ⟨1, by have := HI.out; omega, by simp, Lib.hid ⟨HB2.out.1, fun _ => hrt⟩⟩
        · have q1 : ¬ (np : Int) > 12 := by omega
          have q2 : (nn : Int) > 4 := by omega
          have q1' : ¬ (12 : Int) < (np : Int) := by omega
          have q2' : (4 : Int) < (nn : Int) := by omega
          have hrf : R = false := by rw [HR.out, decide_eq_false h4, Bool.false_and, Bool.and_false]
          subst hrf
          go_wp2_with fail
          go_ret
          exact ⟨rfl, HB.out.1⟩
      · have q1 : (np : Int) > 12 := by omega
        have q1' : (12 : Int) < (np : Int) := by omega
        have hrf : R = false := by rw [HR.out, decide_eq_false h12, Bool.false_and]
        subst hrf
        go_wp2_with fail
        go_ret
        exact ⟨rfl, HB.out.1⟩
    · have hi1 : i = 1 := by omega
      subst hi1
      have hrt := HB.out.2 rfl
      subst hrt
      go_wp2_with fail
      go_ret
      exact ⟨rfl, HB.out.1⟩
end Go.Proofs.YtfkdkbekmimhoaaGreatDoor
/- What the law asks, in plain Lean: an edit, and then the edit that undoes it. -/
namespace Go.Proofs.YtfkdkbekmimhoaaGreatDoor
open Go.RowKit

def swapK (y : Tree) (ks : List Tree) : Tree := .node y.kind y.text y.at_ y.end_ ks
theorem replM_nil (fr tz : Nat) (l : List Tree) (t : Tree) : replM fr tz l [] t = swapK t (t.kids.take fr ++ (l ++ t.kids.drop tz)) := rfl
theorem replM_cons {fr tz : Nat} {l : List Tree} {p : List Int} {t u : Tree} {j : Nat} (hu : t.kids[j]? = some u) : replM fr tz l ((j : Int) :: p) t = swapK t (t.kids.set j (replM fr tz l p u)) := by
  rw [replM, Int.toNat_natCast, hu]
  rfl
theorem swapK_kids (y : Tree) (ks : List Tree) : (swapK y ks).kids = ks := rfl
theorem swapK_self (y : Tree) : swapK y y.kids = y := by cases y; rfl
theorem swapK_swapK (y : Tree) (a b : List Tree) : swapK (swapK y a) b = swapK y b := rfl
theorem getM_step {t y : Tree} {i : Int} {p : List Int} (h : getM t (i :: p) = some y) : ∃ (j : Nat) (u : Tree), i = (j : Int) ∧ t.kids[j]? = some u ∧ getM u p = some y := by
  rw [getM] at h
  by_cases hi : i < 0
  · rw [if_pos hi] at h; cases h
  · rw [if_neg hi] at h
    cases hu : t.kids[i.toNat]? with
    | none => rw [hu] at h; cases h
    | some u =>
      rw [hu] at h
      exact ⟨i.toNat, u, by omega, hu, h⟩
theorem getM_mk {t u y : Tree} {j : Nat} {p : List Int} (hu : t.kids[j]? = some u) (h : getM u p = some y) : getM t ((j : Int) :: p) = some y := by
  rw [getM, if_neg (by omega), Int.toNat_natCast, hu]
  exact h
theorem countsM_set : ∀ {ts : List Tree} {j : Nat} {u : Tree} (v : Tree), ts[j]? = some u → countsM (ts.set j v) + countM u = countsM ts + countM v
  | [], j, u, v, h => by simp at h
  | t :: ts, 0, u, v, h => by
    simp at h
    subst h
    simp only [List.set_cons_zero, countsM]
    omega
  | t :: ts, j + 1, u, v, h => by
    have := countsM_set (ts := ts) (j := j) v (by simpa using h)
    simp only [List.set_cons_succ, countsM]
    omega
theorem countM_swap (y : Tree) (ks : List Tree) : countM (swapK y ks) = 1 + countsM ks := rfl

theorem get_repl {fr tz : Nat} {l : List Tree} : ∀ {p : List Int} {t y : Tree}, getM t p = some y → getM (replM fr tz l p t) p = some (swapK y (y.kids.take fr ++ (l ++ y.kids.drop tz)))
  | [], t, y, h => by
    simp only [getM, Option.some.injEq] at h
    subst h
    rfl
  | i :: p, t, y, h => by
    obtain ⟨j, u, rfl, hu, hy⟩ := getM_step h
    rw [replM_cons hu]
    have hlt := (List.getElem?_eq_some_iff.1 hu).1
    exact getM_mk (t := swapK t _) (by rw [swapK_kids, List.getElem?_set_self hlt]) (get_repl hy)
theorem count_repl {fr tz : Nat} {l : List Tree} : ∀ {p : List Int} {t y : Tree}, getM t p = some y → fr ≤ tz → countM (replM fr tz l p t) ≤ countM t + countsM l
  | [], t, y, h, hft => by
    simp only [getM, Option.some.injEq] at h
    subst h
    rw [replM_nil, countM_swap, countsM_append, countsM_append, countM_eq t]
    have h1 := countsM_drop t.kids tz
    have h2 : countsM (t.kids.take fr) ≤ countsM (t.kids.take tz) := by
      have := countsM_le (t.kids.take tz) fr
      rw [List.take_take, Nat.min_eq_left hft] at this
      exact this
    omega
  | i :: p, t, y, h, hft => by
    obtain ⟨j, u, rfl, hu, hy⟩ := getM_step h
    rw [replM_cons hu, countM_swap, countM_eq t]
    have h1 := countsM_set (replM fr tz l p u) hu
    have h2 := count_repl (l := l) hy hft
    omega
theorem repl_back {fr tz : Nat} {l : List Tree} : ∀ {p : List Int} {t y : Tree}, getM t p = some y → fr ≤ tz → tz ≤ y.kids.length → replM fr (fr + l.length) ((y.kids.take tz).drop fr) p (replM fr tz l p t) = t
  | [], t, y, h, hft, hty => by
    simp only [getM, Option.some.injEq] at h
    subst h
    rw [replM_nil, replM_nil, swapK_kids, swapK_swapK]
    have hlf : (t.kids.take fr).length = fr := by rw [List.length_take]; omega
    have h1 : (t.kids.take fr ++ (l ++ t.kids.drop tz)).take fr = t.kids.take fr := by
      rw [List.take_append_of_le_length (by omega), List.take_of_length_le (by omega)]
    have h2 : (t.kids.take fr ++ (l ++ t.kids.drop tz)).drop (fr + l.length) = t.kids.drop tz := by
      rw [← List.append_assoc]
      have : fr + l.length = (t.kids.take fr ++ l).length := by rw [List.length_append, hlf]
      rw [this, List.drop_left]
    rw [h1, h2]
    have h3 : t.kids.take fr ++ ((t.kids.take tz).drop fr ++ t.kids.drop tz) = t.kids := by
      rw [← List.append_assoc]
      have : t.kids.take fr = (t.kids.take tz).take fr := by rw [List.take_take, Nat.min_eq_left hft]
      rw [this, List.take_append_drop, List.take_append_drop]
    rw [h3, swapK_self]
  | i :: p, t, y, h, hft, hty => by
    obtain ⟨j, u, rfl, hu, hy⟩ := getM_step h
    have hlt := (List.getElem?_eq_some_iff.1 hu).1
    rw [replM_cons hu, replM_cons (t := swapK t _) (u := replM fr tz l p u) (by rw [swapK_kids, List.getElem?_set_self hlt]), swapK_kids, swapK_swapK, repl_back hy hft hty, List.set_set]
    have : t.kids.set j u = t.kids := by
      apply List.ext_getElem?
      intro q
      by_cases hq : j = q
      · subst hq
        rw [List.getElem?_set_self hlt, hu]
      · rw [List.getElem?_set_ne hq]
    rw [this, swapK_self]

/-- An edit and the tree that it gives; the edit that undoes it. -/
theorem undoes {t y : Tree} {ed : Ed} (hp : possM t ed = true) (hy : getM t ed.path = some y) :
    possM (applyM t ed) (invM y ed) = true ∧ applyM (applyM t ed) (invM y ed) = t ∧ countM (applyM t ed) ≤ countM t + countsM ed.new ∧ countsM (invM y ed).new ≤ countM t ∧ getM (applyM t ed) (invM y ed).path = some (swapK y (y.kids.take ed.from_.toNat ++ (ed.new ++ y.kids.drop ed.to_.toNat))) := by
  unfold possM at hp
  rw [hy] at hp
  simp only [Bool.and_eq_true, Bool.or_eq_true, decide_eq_true_eq] at hp
  obtain ⟨h0f, hft, hty, hls⟩ := hp
  obtain ⟨path, frI, tzI, new, tm, ch, co⟩ := ed
  obtain ⟨fr, rfl⟩ : ∃ n : Nat, frI = (n : Int) := ⟨frI.toNat, (Int.toNat_of_nonneg h0f).symm⟩
  have hft : (fr : Int) ≤ tzI := hft
  obtain ⟨tz, rfl⟩ : ∃ n : Nat, tzI = (n : Int) := ⟨tzI.toNat, (Int.toNat_of_nonneg (by omega)).symm⟩
  have hft : fr ≤ tz := by omega
  have hty : tz ≤ y.kids.length := by have : (tz : Int) ≤ (y.kids.length : Int) := hty; omega
  have hy : getM t path = some y := hy
  have hls : listB y.kind = true ∨ ((tz : Int) = (fr : Int) + 1 ∧ new.length = 1) := hls
  have ha : applyM t ⟨path, fr, tz, new, tm, ch, co⟩ = replM fr tz new path t := by
    unfold applyM
    simp
  have hi : invM y ⟨path, fr, tz, new, tm, ch, co⟩ = ⟨path, fr, ((fr + new.length : Nat) : Int), (y.kids.take tz).drop fr, tm, ch, co⟩ := by
    unfold invM
    simp
  rw [ha, hi]
  have hol : ((y.kids.take tz).drop fr).length = tz - fr := by rw [List.length_drop, List.length_take]; omega
  refine ⟨?_, ?_, count_repl hy hft, ?_, ?_⟩
  · unfold possM
    show (match getM (replM fr tz new path t) path with | none => false | some x => _) = true
    rw [get_repl hy]
    simp only [Bool.and_eq_true, Bool.or_eq_true, decide_eq_true_eq, swapK_kids, List.length_append, List.length_take, List.length_drop]
    refine ⟨by omega, by omega, by omega, ?_⟩
    rcases hls with h | ⟨h1, h2⟩
    · exact .inl h
    · refine .inr ⟨by omega, by omega⟩
  · have := repl_back (l := new) hy hft hty
    unfold applyM
    show replM (fr : Int).toNat ((fr + new.length : Nat) : Int).toNat ((y.kids.take tz).drop fr) path (replM fr tz new path t) = t
    rw [Int.toNat_natCast, Int.toNat_natCast]
    exact this
  · have h1 := countsM_drop (y.kids.take tz) fr
    have h2 := countsM_le y.kids tz
    have h3 := countM_eq y
    have h4 := getM_count path t y hy
    show countsM ((y.kids.take tz).drop fr) ≤ countM t
    omega
  · have := get_repl (fr := fr) (tz := tz) (l := new) hy
    simpa using this
end Go.Proofs.YtfkdkbekmimhoaaGreatDoor
