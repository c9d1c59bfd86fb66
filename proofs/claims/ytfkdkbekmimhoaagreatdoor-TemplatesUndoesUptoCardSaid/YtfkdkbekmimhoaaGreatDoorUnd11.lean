/- TemplatesUndoes: an edit, and then the edit that undoes it, gives the tree. Part 11 of 14. -/
import Derived.Test.YtfkdkbekmimhoaaGreatDoorUnd10
import Derived.Test.YtfkdkbekmimhoaaGreatDoorRows
import Derived.ProofKit
import Derived.Below
import Derived.ChangeSame
import Derived.Lib.SmallJoins
import Derived.Deep.Slices
/- The law TemplatesUndoes, walked. -/
namespace Go.Proofs.YtfkdkbekmimhoaaGreatDoor
open Go.RowKit

set_option maxHeartbeats 8000000 in
set_option maxRecDepth 100000 in
theorem few_any (t : Tree) (A : Option Addr) (c : Nat) (ed : Ed) (Ap : Option Addr) (cp : Nat) (An : Option Addr) (cn be oe ce : Nat) (w : World) (hct : countM t ≤ 1000000) (hk : KidsAt w w.heap.size A 0 t.kids) (hcap : t.kids.length ≤ c) (hcnt : countsM ed.new ≤ 1000000) (hkn : KidsAt w w.heap.size An 0 ed.new) (hbe : be < w.heap.size)
    (hce : ∀ j v, (edC ed Ap cp An cn)[j]? = some v → w.cell? ⟨be, oe + j, none⟩ = some v) :
    Calls Tryz.prog 6 #[nodeV t A c, .slice (some ⟨be, oe, none⟩) 1 ce] w fun e w' => e = .returned (.bool (smallM t 80 && fewM ed)) ∧ Below w.heap.size w w' := by
  have hSm := fun W (hb : Below w.heap.size w W) => Small_any t A c 80 W hct hcap (KidsAt.mono hb.size _ _ _ (KidsAt.below hb (Nat.le_refl _) _ _ _ hk))
  have hFw := fun W (hb : Below w.heap.size w W) => Few_any ed Ap cp An cn be oe ce W hcnt (KidsAt.mono hb.size _ _ _ (KidsAt.below hb (Nat.le_refl _) _ _ _ hkn)) (Nat.lt_of_lt_of_le hbe hb.size) (fun j v hj => (hb.cell (p := ⟨be, _, none⟩) hbe).trans (hce j v hj))
  obtain ⟨k, hkk⟩ : ∃ q, t.kind = q := ⟨_, rfl⟩
  obtain ⟨x, hx⟩ : ∃ q, t.text = q := ⟨_, rfl⟩
  obtain ⟨a, ha⟩ : ∃ q, t.at_ = q := ⟨_, rfl⟩
  obtain ⟨z, hz⟩ : ∃ q, t.end_ = q := ⟨_, rfl⟩
  obtain ⟨n, hn⟩ : ∃ q, t.kids.length = q := ⟨_, rfl⟩
  have hnv : nodeV t A c = .agg #[.int .i64 k, .string x, .int .i64 a, .int .i64 z, .slice A n c] := by unfold nodeV; rw [hkk, hx, ha, hz, hn]
  obtain ⟨b1, hb1⟩ : ∃ q, smallM t 80 = q := ⟨_, rfl⟩
  obtain ⟨b2, hb2⟩ : ∃ q, fewM ed = q := ⟨_, rfl⟩
  rw [hnv, hb1] at hSm
  rw [hb2] at hFw
  rw [hnv, hb1, hb2]
  obtain ⟨W1, hW1⟩ : ∃ W1, w.alloc (.cells #[.int .i64 k, .string x, .int .i64 a, .int .i64 z, .slice A n c] 24) = W1 := ⟨_, rfl⟩
  have hR1 : Blk W1 w.heap.size 24 #[.int .i64 k, .string x, .int .i64 a, .int .i64 z, .slice A n c] := by rw [← hW1]; exact Blk.new w _ _
  have hbw1 : Below w.heap.size w W1 := by rw [← hW1]; exact below_alloc _ _
  obtain ⟨⟨t0, t1, t2, t3, t4⟩, -⟩ := hR1.five
  have hl1 := hR1.lt
  have HS := Lib.hid (hSm W1 hbw1)
  have HF := Lib.hid hFw
  have HB1 := Lib.hid hbw1
  clear hSm hFw hbw1 hR1 hk hcap hkn hce hct hcnt hnv hkk hx ha hz hn hb1 hb2
  go_enter Tryz.func6, Tryz.ntmps6
  go_wp2_with (rw [hW1])
  refine HS.out.mono ?_
  rintro e w2 ⟨rfl, hb2⟩
  have hbw2 := HB1.out.trans (hb2.mono HB1.out.size)
  have HF2 := Lib.hid (HF.out w2 hbw2)
  have HB2 := Lib.hid hbw2
  clear t0 t1 t2 t3 t4 hW1 hb2 hbw2
  rcases Bool.eq_false_or_eq_true b1 with rfl | rfl
  · go_wp2_with fail
    refine HF2.out.mono ?_
    rintro e w3 ⟨rfl, hb3⟩
    have HB3 := Lib.hid (HB2.out.trans (hb3.mono HB2.out.size))
    clear hb3
    go_wp2_with fail
    go_ret
    exact ⟨ret_bool (by simp), HB3.out⟩
  · go_wp2_with fail
    go_ret
    exact ⟨ret_bool (by simp), HB2.out⟩

/-- The cells of an edit that lies alone in a block. -/
theorem edC_blk {w : World} {g : Nat} {ed : Ed} {Ap : Option Addr} {cp : Nat} {An : Option Addr} {cn : Nat} (h : Blk w g 30 (edC ed Ap cp An cn).toArray) : ∀ j v, (edC ed Ap cp An cn)[j]? = some v → w.cell? ⟨g, 0 + j, none⟩ = some v := fun j v hj => by
  rw [Nat.zero_add, h.cell]
  simpa using hj

set_option maxHeartbeats 8000000 in
set_option maxRecDepth 100000 in
theorem lawU_any (t : Tree) (A : Option Addr) (c : Nat) (ed : Ed) (Ap : Option Addr) (cp : Nat) (An : Option Addr) (cn : Nat) (w : World) (hct : countM t ≤ 1000000) (hcl : countsM ed.new ≤ 1000000) (hk : KidsAt w w.heap.size A 0 t.kids) (hcap : t.kids.length ≤ c) (hp : IntsAt w w.heap.size Ap ed.path) (hpc : ed.path.length ≤ cp) (hkn : KidsAt w w.heap.size An 0 ed.new) :
    Calls Tryz.prog 4 #[nodeV t A c, edV ed Ap cp An cn] w fun e w' => e = .returned (.bool true) ∧ Below w.heap.size w w' := by
  have hfew := fun W (hb : Below w.heap.size w W) be (hbe : be < W.heap.size) (hB : Blk W be 30 (edC ed Ap cp An cn).toArray) => few_any t A c ed Ap cp An cn be 0 1 W hct (KidsAt.mono hb.size _ _ _ (KidsAt.below hb (Nat.le_refl _) _ _ _ hk)) hcap hcl (KidsAt.mono hb.size _ _ _ (KidsAt.below hb (Nat.le_refl _) _ _ _ hkn)) hbe (edC_blk hB)
  have hposs := fun W (hb : Below w.heap.size w W) (hpl : ed.path.length ≤ 1000000) => Possible_any t A c ed Ap cp An cn W hct (KidsAt.mono hb.size _ _ _ (KidsAt.below hb (Nat.le_refl _) _ _ _ hk)) hcap ((hp.below hb (Nat.le_refl _)).mono hb.size) hpl
  have happ := fun W (hb : Below w.heap.size w W) be (hbe : be < W.heap.size) (hB : Blk W be 30 (edC ed Ap cp An cn).toArray) (hpl : ed.path.length ≤ 1000000) (hpo : possM t ed = true) (hcc : countM t + countsM ed.new ≤ 1000000) => Apply_any t A c ed Ap cp An cn be 0 1 W hpo hcc (KidsAt.mono hb.size _ _ _ (KidsAt.below hb (Nat.le_refl _) _ _ _ hk)) hcap ((hp.below hb (Nat.le_refl _)).mono hb.size) hpl hpc (KidsAt.mono hb.size _ _ _ (KidsAt.below hb (Nat.le_refl _) _ _ _ hkn)) hbe (edC_blk hB)
  have hinv := fun W (hb : Below w.heap.size w W) y (hy : getM t ed.path = some y) (hpl : ed.path.length ≤ 1000000) (hnl : ed.new.length ≤ 1000000) (hpo : possM t ed = true) => Invert_any t y A c ed Ap cp An cn W hpo hy hct (KidsAt.mono hb.size _ _ _ (KidsAt.below hb (Nat.le_refl _) _ _ _ hk)) hcap ((hp.below hb (Nat.le_refl _)).mono hb.size) hpl hnl
  have hequ := fun W (hb : Below w.heap.size w W) A1 c1 (hk1 : KidsAt W W.heap.size A1 0 t.kids) => equal_any 1000000 t t A1 c1 A c W hct (Nat.le_refl _) rfl hk1 (KidsAt.mono hb.size _ _ _ (KidsAt.below hb (Nat.le_refl _) _ _ _ hk))
  have hsm : smallM t 80 = true → countM t ≤ 80 := fun h => by
    unfold smallM at h
    simp only [Bool.and_eq_true, decide_eq_true_eq] at h
    exact h.2
  have hfm : fewM ed = true → ed.path.length ≤ 12 ∧ ed.new.length ≤ 4 ∧ countsM ed.new ≤ 120 := fun h => by
    unfold fewM at h
    simp only [Bool.and_eq_true, decide_eq_true_eq] at h
    refine ⟨h.1, h.2.1, ?_⟩
    have hall := List.all_eq_true.1 h.2.2
    have : ∀ (l : List Tree), (∀ u ∈ l, smallM u 30 = true) → countsM l ≤ l.length * 30 := by
      intro l
      induction l with
      | nil => intro _; exact Nat.zero_le _
      | cons u l ih =>
        intro hl
        have h1 := hl u List.mem_cons_self
        have h2 := ih fun v hv => hl v (List.mem_cons_of_mem _ hv)
        unfold smallM at h1
        simp only [Bool.and_eq_true, decide_eq_true_eq] at h1
        simp only [countsM, List.length_cons]
        have := h1.2
        omega
    have h3 := this ed.new hall
    have h4 := h.2.1
    omega
  obtain ⟨k, hkk⟩ : ∃ q, t.kind = q := ⟨_, rfl⟩
  obtain ⟨x, hx⟩ : ∃ q, t.text = q := ⟨_, rfl⟩
  obtain ⟨a, ha⟩ : ∃ q, t.at_ = q := ⟨_, rfl⟩
  obtain ⟨z, hz⟩ : ∃ q, t.end_ = q := ⟨_, rfl⟩
  obtain ⟨n, hn⟩ : ∃ q, t.kids.length = q := ⟨_, rfl⟩
  have hnv : nodeV t A c = .agg #[.int .i64 k, .string x, .int .i64 a, .int .i64 z, .slice A n c] := by unfold nodeV; rw [hkk, hx, ha, hz, hn]
  obtain ⟨np, hnp⟩ : ∃ q, ed.path.length = q := ⟨_, rfl⟩
  obtain ⟨nn, hnn⟩ : ∃ q, ed.new.length = q := ⟨_, rfl⟩
  obtain ⟨fr, hfr⟩ : ∃ q, ed.from_ = q := ⟨_, rfl⟩
  obtain ⟨tz, htz⟩ : ∃ q, ed.to_ = q := ⟨_, rfl⟩
  obtain ⟨tm, htm⟩ : ∃ q, ed.template = q := ⟨_, rfl⟩
  obtain ⟨ch, hch⟩ : ∃ q, ed.choice = q := ⟨_, rfl⟩
  obtain ⟨co, hco⟩ : ∃ q, ed.cost = q := ⟨_, rfl⟩
  have hev : edV ed Ap cp An cn = .agg #[.slice Ap np cp, .int .i64 fr, .int .i64 tz, .slice An nn cn, .int .i64 tm, .int .i64 ch, .int .i64 co] := by unfold edV; rw [hnp, hnn, hfr, htz, htm, hch, hco]
  have hec : edC ed Ap cp An cn = [.slice Ap np cp, .int .i64 fr, .int .i64 tz, .slice An nn cn, .int .i64 tm, .int .i64 ch, .int .i64 co] := by unfold edC; rw [hnp, hnn, hfr, htz, htm, hch, hco]
  rw [hnv] at hfew hposs happ hinv hequ
  rw [hev] at hposs hinv
  rw [hec] at hfew happ
  rw [hnv, hev]
  obtain ⟨W1, hW1⟩ : ∃ W1, w.alloc (.cells #[.int .i64 k, .string x, .int .i64 a, .int .i64 z, .slice A n c] 24) = W1 := ⟨_, rfl⟩
  have hR1 : Blk W1 w.heap.size 24 #[.int .i64 k, .string x, .int .i64 a, .int .i64 z, .slice A n c] := by rw [← hW1]; exact Blk.new w _ _
  have hs1 : W1.heap.size = w.heap.size + 1 := by rw [← hW1]; simp
  have hb1 : Below w.heap.size w W1 := by rw [← hW1]; exact below_alloc _ _
  obtain ⟨W2, hW2⟩ : ∃ W2, W1.alloc (.cells #[.slice Ap np cp, .int .i64 fr, .int .i64 tz, .slice An nn cn, .int .i64 tm, .int .i64 ch, .int .i64 co] 30) = W2 := ⟨_, rfl⟩
  have hE2 : Blk W2 W1.heap.size 30 #[.slice Ap np cp, .int .i64 fr, .int .i64 tz, .slice An nn cn, .int .i64 tm, .int .i64 ch, .int .i64 co] := by rw [← hW2]; exact Blk.new W1 _ _
  have hb2 : Below w.heap.size w W2 := by rw [← hW2]; exact hb1.alloc (by omega) _
  have hR2 : Blk W2 w.heap.size 24 #[.int .i64 k, .string x, .int .i64 a, .int .i64 z, .slice A n c] := by rw [← hW2]; exact hR1.alloc _
  obtain ⟨gE, hgE⟩ : ∃ g, W1.heap.size = g := ⟨_, rfl⟩
  rw [hgE] at hE2
  have HA := Lib.hid (awake_any W2)
  have HFEW := Lib.hid hfew
  have HPOSS := Lib.hid hposs
  have HAPP := Lib.hid happ
  have HINV := Lib.hid hinv
  have HEQU := Lib.hid hequ
  have HSM := Lib.hid (And.intro hsm hfm)
  have HR := Lib.hid hR2
  have HE := Lib.hid hE2
  have HB2 := Lib.hid hb2
  have HNP := Lib.hid (And.intro hnp hnn)
  have HCT := Lib.hid hct
  have HPC := Lib.hid hpc
  clear hfew hposs happ hinv hequ hsm hfm hR1 hs1 hb1 hE2 hb2 hR2 hk hkn hcap hct hcl hp hpc hnv hev hec hkk hx ha hz hn hnp hnn hfr htz htm hch hco
  go_enter Tryz.func4, Tryz.ntmps4
  go_wp2_with (first | rw [hW1] | rw [hW2] | rw [hgE])
  refine HA.out.mono ?_
  rintro e w3 ⟨rfl, hb3⟩
  have hR3 := HR.out.below hb3 HR.out.lt
  have hE3 := HE.out.below hb3 HE.out.lt
  have hbw3 := HB2.out.trans (hb3.mono HB2.out.size)
  obtain ⟨⟨t0, t1, t2, t3, t4⟩, -⟩ := hR3.five
  obtain ⟨⟨e0, e1, e2, e3, e4, e5, e6⟩, -⟩ := hE3.seven
  obtain ⟨W4, hW4⟩ : ∃ W4, w3.alloc (.cells #[.slice Ap np cp, .int .i64 fr, .int .i64 tz, .slice An nn cn, .int .i64 tm, .int .i64 ch, .int .i64 co] 30) = W4 := ⟨_, rfl⟩
  have hX4 : Blk W4 w3.heap.size 30 #[.slice Ap np cp, .int .i64 fr, .int .i64 tz, .slice An nn cn, .int .i64 tm, .int .i64 ch, .int .i64 co] := by rw [← hW4]; exact Blk.new w3 _ _
  have hb4 : Below w.heap.size w W4 := by rw [← hW4]; exact hbw3.alloc hbw3.size _
  have hR4 : Blk W4 w.heap.size 24 #[.int .i64 k, .string x, .int .i64 a, .int .i64 z, .slice A n c] := by rw [← hW4]; exact hR3.alloc _
  have hE4 : Blk W4 gE 30 #[.slice Ap np cp, .int .i64 fr, .int .i64 tz, .slice An nn cn, .int .i64 tm, .int .i64 ch, .int .i64 co] := by rw [← hW4]; exact hE3.alloc _
  have HF4 := Lib.hid (HFEW.out W4 hb4 w3.heap.size hX4.lt hX4)
  have H4 := Lib.hid (And.intro hR4 (And.intro hE4 hb4))
  have hl3 := hR3.lt
  have hlE3 := hE3.lt
  clear hR3 hE3 hbw3 hX4 hb4 hR4 hE4 hb3 hW1 hW2 hgE
  go_wp2_with (rw [hW4])
  refine HF4.out.mono ?_
  rintro e w5 ⟨rfl, hb5⟩
  obtain ⟨hR4, hE4, hb4⟩ := H4.out
  have hR5 := hR4.below hb5 hR4.lt
  have hE5 := hE4.below hb5 hE4.lt
  have hbw5 := hb4.trans (hb5.mono hb4.size)
  clear t0 t1 t2 t3 t4 e0 e1 e2 e3 e4 e5 e6 hW4 hl3 hlE3
  obtain ⟨⟨t0, t1, t2, t3, t4⟩, -⟩ := hR5.five
  obtain ⟨⟨e0, e1, e2, e3, e4, e5, e6⟩, -⟩ := hE5.seven
  have hl5 := hR5.lt
  have hlE5 := hE5.lt
  have H5 := Lib.hid (And.intro hR5 (And.intro hE5 hbw5))
  obtain ⟨fb, hfb⟩ : ∃ q, (smallM t 80 && fewM ed) = q := ⟨_, rfl⟩
  rw [hfb]
  have HFB := Lib.hid hfb
  clear hR4 hE4 hb4 hR5 hE5 hbw5 hb5 hfb
  rcases Bool.eq_false_or_eq_true fb with rfl | rfl
  · obtain ⟨hs80, hf8⟩ : smallM t 80 = true ∧ fewM ed = true := by
      have := HFB.out
      rw [Bool.and_eq_true] at this
      exact this
    have hc80 := HSM.out.1 hs80
    obtain ⟨hp12, hn4, hc120⟩ := HSM.out.2 hf8
    have HPO5 := Lib.hid (HPOSS.out w5 H5.out.2.2 (by omega))
    have HBD : Hid (countM t ≤ 80 ∧ ed.path.length ≤ 12 ∧ ed.new.length ≤ 4 ∧ countsM ed.new ≤ 120) := Lib.hid ⟨hc80, hp12, hn4, hc120⟩
    clear hs80 hf8 hc80 hp12 hn4 hc120
    go_wp2_with fail
    refine HPO5.out.mono ?_
    rintro e w6 ⟨rfl, hb6⟩
    obtain ⟨hR5, hE5, hbw5⟩ := H5.out
    have hR6 := hR5.below hb6 hR5.lt
    have hE6 := hE5.below hb6 hE5.lt
    have hbw6 := hbw5.trans (hb6.mono hbw5.size)
    clear t0 t1 t2 t3 t4 e0 e1 e2 e3 e4 e5 e6 hl5 hlE5
    obtain ⟨pb, hpb⟩ : ∃ q, possM t ed = q := ⟨_, rfl⟩
    rw [hpb]
    have HPB := Lib.hid hpb
    clear hpb
    rcases Bool.eq_false_or_eq_true pb with rfl | rfl
    · obtain ⟨⟨t0, t1, t2, t3, t4⟩, -⟩ := hR6.five
      obtain ⟨⟨e0, e1, e2, e3, e4, e5, e6⟩, -⟩ := hE6.seven
      have hl6 := hR6.lt
      have hlE6 := hE6.lt
      obtain ⟨y, hy⟩ : ∃ y, getM t ed.path = some y := by
        have := HPB.out
        unfold possM at this
        cases hg : getM t ed.path with
        | none => rw [hg] at this; cases this
        | some y => exact ⟨y, rfl⟩
      obtain ⟨un1, un2, un3, un4, un5⟩ := undoes HPB.out hy
      obtain ⟨W7, hW7⟩ : ∃ W7, w6.alloc (.cells #[.slice Ap np cp, .int .i64 fr, .int .i64 tz, .slice An nn cn, .int .i64 tm, .int .i64 ch, .int .i64 co] 30) = W7 := ⟨_, rfl⟩
      have hX7 : Blk W7 w6.heap.size 30 #[.slice Ap np cp, .int .i64 fr, .int .i64 tz, .slice An nn cn, .int .i64 tm, .int .i64 ch, .int .i64 co] := by rw [← hW7]; exact Blk.new w6 _ _
      have hb67 : Below w6.heap.size w6 W7 := by rw [← hW7]; exact below_alloc _ _
      have hbw7 := hbw6.trans (hb67.mono hbw6.size)
      have hR7 := hR6.below hb67 hR6.lt
      have hE7 := hE6.below hb67 hE6.lt
      have HAP7 := Lib.hid (HAPP.out W7 hbw7 w6.heap.size hX7.lt hX7 (by have := HBD.out; omega) HPB.out (by have := HBD.out; omega))
      obtain ⟨X, hX⟩ : ∃ X, applyM t ed = X := ⟨_, rfl⟩
      rw [hX] at HAP7 un1 un2 un3 un5
      obtain ⟨bk, hbk⟩ : ∃ b, invM y ed = b := ⟨_, rfl⟩
      rw [hbk] at un1 un2 un4 un5
      have HUN := Lib.hid (And.intro un1 (And.intro un2 (And.intro un3 un4)))
      have HY := Lib.hid (And.intro hy hbk)
      have H7 := Lib.hid (And.intro hR7 (And.intro hE7 hbw7))
      clear hR5 hE5 hbw5 hR6 hE6 hbw6 hb6 hX7 hb67 hbw7 hR7 hE7 un1 un2 un3 un4 un5 hy hbk hX
      go_wp2_with (rw [hW7])
      refine HAP7.out.mono ?_
      rintro e w8 ⟨A8, c8, rfl, hT8, hb8⟩
      obtain ⟨hR7, hE7, hbw7⟩ := H7.out
      clear t0 t1 t2 t3 t4 e0 e1 e2 e3 e4 e5 e6 hl6 hlE6 hW7
      obtain ⟨kX, hkX⟩ : ∃ q, X.kind = q := ⟨_, rfl⟩
      obtain ⟨xX, hxX⟩ : ∃ q, X.text = q := ⟨_, rfl⟩
      obtain ⟨aX, haX⟩ : ∃ q, X.at_ = q := ⟨_, rfl⟩
      obtain ⟨zX, hzX⟩ : ∃ q, X.end_ = q := ⟨_, rfl⟩
      obtain ⟨nX, hnX⟩ : ∃ q, X.kids.length = q := ⟨_, rfl⟩
      have hnvX : nodeV X A8 c8 = .agg #[.int .i64 kX, .string xX, .int .i64 aX, .int .i64 zX, .slice A8 nX c8] := by unfold nodeV; rw [hkX, hxX, haX, hzX, hnX]
      rw [hnvX]
      obtain ⟨W9, hW9⟩ : ∃ W9, w8.alloc (.cells #[.int .i64 0, .string ⟨#[]⟩, .int .i64 0, .int .i64 0, .slice none 0 0] 24) = W9 := ⟨_, rfl⟩
      have hZ9 : Blk W9 w8.heap.size 24 #[.int .i64 0, .string ⟨#[]⟩, .int .i64 0, .int .i64 0, .slice none 0 0] := by rw [← hW9]; exact Blk.new w8 _ _
      have hb89 : Below w8.heap.size w8 W9 := by rw [← hW9]; exact below_alloc _ _
      obtain ⟨W10, hW10, hX10, hf10, hB10⟩ := stored5 (a := .int .i64 kX) (b := .string xX) (c := .int .i64 aX) (d := .int .i64 zX) (e := .slice A8 nX c8) hZ9
      have hb810 := hB10 _ _ hb89 (Nat.le_refl _)
      have hb710 : Below W7.heap.size W7 W10 := hb8.trans (hb810.mono hb8.size)
      have hR10 := hR7.below hb710 hR7.lt
      have hE10 := hE7.below hb710 hE7.lt
      have hbw10 := hbw7.trans (hb710.mono hbw7.size)
      have hKX := hT8.kids
      have hKX10 : KidsAt W10 w8.heap.size A8 0 X.kids := KidsAt.below hb810 (Nat.le_refl _) _ _ _ hKX.1
      obtain ⟨gX, hgX⟩ : ∃ g, w8.heap.size = g := ⟨_, rfl⟩
      obtain ⟨⟨y0, y1, y2, y3, y4⟩, v0, v1, v2, v3, v4⟩ := hZ9.five
      obtain ⟨⟨t0, t1, t2, t3, t4⟩, -⟩ := hR10.five
      obtain ⟨⟨e0, e1, e2, e3, e4, e5, e6⟩, -⟩ := hE10.seven
      have hl10 := hR10.lt
      have hlE10 := hE10.lt
      rw [hgX] at hX10 hKX10 y0 y1 y2 y3 y4 v0 v1 v2 v3 v4 hW10
      have HIN10 := Lib.hid (HINV.out W10 hbw10 y HY.out.1 (by have := HBD.out; omega) (by have := HBD.out; omega) HPB.out)
      rw [HY.out.2] at HIN10
      have H10 := Lib.hid (And.intro hR10 (And.intro hE10 (And.intro hbw10 (And.intro hX10 (And.intro hKX10 hKX.2)))))
      have HKX := Lib.hid hnvX
      clear hR7 hE7 hbw7 hb8 hT8 hZ9 hb89 hX10 hf10 hB10 hb810 hb710 hR10 hE10 hbw10 hKX hKX10 hnvX hkX hxX haX hzX hnX
      go_wp2_with (first | rw [hW9] | rw [hgX] | rw [hW10])
      refine HIN10.out.mono ?_
      rintro e w11 ⟨Ap2, cp2, An2, cn2, rfl, hI2, hcp2, hK2, hb11⟩
      obtain ⟨hR10, hE10, hbw10, hX10, hKX10, hcX⟩ := H10.out
      clear t0 t1 t2 t3 t4 e0 e1 e2 e3 e4 e5 e6 y0 y1 y2 y3 y4 v0 v1 v2 v3 v4 hl10 hlE10 hW9 hW10 hgX
      obtain ⟨np2, hnp2⟩ : ∃ q, bk.path.length = q := ⟨_, rfl⟩
      obtain ⟨nn2, hnn2⟩ : ∃ q, bk.new.length = q := ⟨_, rfl⟩
      obtain ⟨fr2, hfr2⟩ : ∃ q, bk.from_ = q := ⟨_, rfl⟩
      obtain ⟨tz2, htz2⟩ : ∃ q, bk.to_ = q := ⟨_, rfl⟩
      obtain ⟨tm2, htm2⟩ : ∃ q, bk.template = q := ⟨_, rfl⟩
      obtain ⟨ch2, hch2⟩ : ∃ q, bk.choice = q := ⟨_, rfl⟩
      obtain ⟨co2, hco2⟩ : ∃ q, bk.cost = q := ⟨_, rfl⟩
      have hev2 : edV bk Ap2 cp2 An2 cn2 = .agg #[.slice Ap2 np2 cp2, .int .i64 fr2, .int .i64 tz2, .slice An2 nn2 cn2, .int .i64 tm2, .int .i64 ch2, .int .i64 co2] := by unfold edV; rw [hnp2, hnn2, hfr2, htz2, htm2, hch2, hco2]
      have hec2 : edC bk Ap2 cp2 An2 cn2 = [.slice Ap2 np2 cp2, .int .i64 fr2, .int .i64 tz2, .slice An2 nn2 cn2, .int .i64 tm2, .int .i64 ch2, .int .i64 co2] := by unfold edC; rw [hnp2, hnn2, hfr2, htz2, htm2, hch2, hco2]
      rw [hev2]
      have hX11 := hX10.below hb11 hX10.lt
      have hR11 := hR10.below hb11 hR10.lt
      have hbw11 := hbw10.trans (hb11.mono hbw10.size)
      obtain ⟨W12, hW12⟩ : ∃ W12, w11.alloc (.cells #[.slice none 0 0, .int .i64 0, .int .i64 0, .slice none 0 0, .int .i64 0, .int .i64 0, .int .i64 0] 30) = W12 := ⟨_, rfl⟩
      have hZ12 : Blk W12 w11.heap.size 30 #[.slice none 0 0, .int .i64 0, .int .i64 0, .slice none 0 0, .int .i64 0, .int .i64 0, .int .i64 0] := by rw [← hW12]; exact Blk.new w11 _ _
      have hb1112 : Below w11.heap.size w11 W12 := by rw [← hW12]; exact below_alloc _ _
      obtain ⟨W13, hW13, hB13, hf13, hBB13⟩ := stored7 (a := .slice Ap2 np2 cp2) (b := .int .i64 fr2) (c := .int .i64 tz2) (d := .slice An2 nn2 cn2) (e := .int .i64 tm2) (f := .int .i64 ch2) (h := .int .i64 co2) hZ12
      have hb1113 := hBB13 _ _ hb1112 (Nat.le_refl _)
      obtain ⟨gB, hgB⟩ : ∃ g, w11.heap.size = g := ⟨_, rfl⟩
      have hX13 := hX11.below hb1113 hX11.lt
      have hR13 := hR11.below hb1113 hR11.lt
      obtain ⟨W14, hW14⟩ : ∃ W14, W13.alloc (.cells #[.slice Ap2 np2 cp2, .int .i64 fr2, .int .i64 tz2, .slice An2 nn2 cn2, .int .i64 tm2, .int .i64 ch2, .int .i64 co2] 30) = W14 := ⟨_, rfl⟩
      have hL14 : Blk W14 W13.heap.size 30 #[.slice Ap2 np2 cp2, .int .i64 fr2, .int .i64 tz2, .slice An2 nn2 cn2, .int .i64 tm2, .int .i64 ch2, .int .i64 co2] := by rw [← hW14]; exact Blk.new W13 _ _
      have hb1114 : Below w11.heap.size w11 W14 := by rw [← hW14]; exact hb1113.alloc hb1113.size _
      have hR14 := hR11.below hb1114 hR11.lt
      have hbw14 := hbw11.trans (hb1114.mono hbw11.size)
      have hbw1014 : Below W10.heap.size W10 W14 := hb11.trans (hb1114.mono hb11.size)
      have hKX14 : KidsAt W14 W14.heap.size A8 0 X.kids := KidsAt.mono (B := gX) (by have := hX10.lt; have := hbw1014.size; omega) _ _ _ (KidsAt.below hbw1014 (by have := hX10.lt; omega) _ _ _ hKX10)
      have hI14 : IntsAt W14 W14.heap.size Ap2 bk.path := (hI2.below hb1114 (Nat.le_refl _)).mono hb1114.size
      have hK14 : KidsAt W14 W14.heap.size An2 0 bk.new := KidsAt.mono hb1114.size _ _ _ (KidsAt.below hb1114 (Nat.le_refl _) _ _ _ hK2)
      have hbp : bk.path.length ≤ 1000000 := by
        have : bk.path = ed.path := by rw [← HY.out.2]; rfl
        rw [this]
        have := HBD.out
        omega
      obtain ⟨un1, un2, un3, un4⟩ := HUN.out
      have hap := Apply_any X A8 c8 bk Ap2 cp2 An2 cn2 W13.heap.size 0 1 W14 un1 (by have := HBD.out; omega) hKX14 hcX hI14 hbp hcp2 hK14 hL14.lt (edC_blk (by rw [hec2]; exact hL14))
      rw [un2, HKX.out] at hap
      have HAP := Lib.hid hap
      obtain ⟨⟨x0, x1, x2, x3, x4⟩, -⟩ := hX13.five
      obtain ⟨⟨y0, y1, y2, y3, y4, y5, y6⟩, v0, v1, v2, v3, v4, v5, v6⟩ := hZ12.seven
      obtain ⟨⟨z0, z1, z2, z3, z4, z5, z6⟩, -⟩ := hB13.seven
      have hlX := hX13.lt
      have hlB := hB13.lt
      rw [hgB] at y0 y1 y2 y3 y4 y5 y6 v0 v1 v2 v3 v4 v5 v6 z0 z1 z2 z3 z4 z5 z6 hW13 hlB
      have H14 := Lib.hid (And.intro hR14 hbw14)
      clear hR10 hE10 hbw10 hX10 hKX10 hcX hX11 hR11 hbw11 hZ12 hb1112 hB13 hf13 hBB13 hb1113 hX13 hR13 hL14 hb1114 hR14 hbw14 hbw1014 hKX14 hI14 hK14 hbp un1 un2 un3 un4 hap hI2 hcp2 hK2 hb11 hnp2 hnn2 hfr2 htz2 htm2 hch2 hco2 hev2 hec2
      go_wp2_with (first | rw [hW12] | rw [hgB] | rw [hW13] | rw [hW14])
      refine HAP.out.mono ?_
      rintro e w15 ⟨A15, c15, rfl, hT15, hb15⟩
      obtain ⟨hR14, hbw14⟩ := H14.out
      clear x0 x1 x2 x3 x4 y0 y1 y2 y3 y4 y5 y6 v0 v1 v2 v3 v4 v5 v6 z0 z1 z2 z3 z4 z5 z6 hlX hlB hW12 hW13 hW14 hgB
      have hKt := hT15.kids.1
      obtain ⟨kt, hkt⟩ : ∃ q, t.kind = q := ⟨_, rfl⟩
      obtain ⟨xt, hxt⟩ : ∃ q, t.text = q := ⟨_, rfl⟩
      obtain ⟨at_, hat⟩ : ∃ q, t.at_ = q := ⟨_, rfl⟩
      obtain ⟨zt, hzt⟩ : ∃ q, t.end_ = q := ⟨_, rfl⟩
      obtain ⟨nt, hnt⟩ : ∃ q, t.kids.length = q := ⟨_, rfl⟩
      have hnvt : nodeV t A15 c15 = .agg #[.int .i64 kt, .string xt, .int .i64 at_, .int .i64 zt, .slice A15 nt c15] := by unfold nodeV; rw [hkt, hxt, hat, hzt, hnt]
      rw [hnvt]
      obtain ⟨W16, hW16⟩ : ∃ W16, w15.alloc (.cells #[.int .i64 0, .string ⟨#[]⟩, .int .i64 0, .int .i64 0, .slice none 0 0] 24) = W16 := ⟨_, rfl⟩
      have hZ16 : Blk W16 w15.heap.size 24 #[.int .i64 0, .string ⟨#[]⟩, .int .i64 0, .int .i64 0, .slice none 0 0] := by rw [← hW16]; exact Blk.new w15 _ _
      have hb1516 : Below w15.heap.size w15 W16 := by rw [← hW16]; exact below_alloc _ _
      obtain ⟨W17, hW17, hY17, hf17, hB17⟩ := stored5 (a := .int .i64 kt) (b := .string xt) (c := .int .i64 at_) (d := .int .i64 zt) (e := .slice A15 nt c15) hZ16
      have hb1517 := hB17 _ _ hb1516 (Nat.le_refl _)
      have hb1417 : Below W14.heap.size W14 W17 := hb15.trans (hb1517.mono hb15.size)
      have hR17 := hR14.below hb1417 hR14.lt
      have hbw17 := hbw14.trans (hb1417.mono hbw14.size)
      have hKt17 : KidsAt W17 W17.heap.size A15 0 t.kids := KidsAt.mono hb1517.size _ _ _ (KidsAt.below hb1517 (Nat.le_refl _) _ _ _ hKt)
      have heq := HEQU.out W17 hbw17 A15 c15 hKt17
      rw [hnvt] at heq
      have HEQ := Lib.hid heq
      have HB17 := Lib.hid hbw17
      obtain ⟨g9, hg9⟩ : ∃ g, w15.heap.size = g := ⟨_, rfl⟩
      obtain ⟨⟨t0, t1, t2, t3, t4⟩, -⟩ := hR17.five
      obtain ⟨⟨x0, x1, x2, x3, x4⟩, -⟩ := hY17.five
      obtain ⟨⟨y0, y1, y2, y3, y4⟩, v0, v1, v2, v3, v4⟩ := hZ16.five
      have hl17 := hR17.lt
      have hlY := hY17.lt
      rw [hg9] at x0 x1 x2 x3 x4 y0 y1 y2 y3 y4 v0 v1 v2 v3 v4 hW17 hlY
      clear hR14 hbw14 hT15 hb15 hKt hkt hxt hat hzt hnt hnvt hZ16 hb1516 hY17 hf17 hB17 hb1517 hb1417 hR17 hbw17 hKt17 heq
      go_wp2_with (first | rw [hW16] | rw [hg9] | rw [hW17])
      refine HEQ.out.mono ?_
      rintro e w18 ⟨bb, rfl, rfl, hb18⟩
      have HB18 := Lib.hid (HB17.out.trans (hb18.mono HB17.out.size))
      clear x0 x1 x2 x3 x4 y0 y1 y2 y3 y4 v0 v1 v2 v3 v4 t0 t1 t2 t3 t4 hW16 hW17 hg9 hb18
      go_wp2_with fail
      go_ret
      exact ⟨rfl, HB18.out⟩
    · obtain ⟨⟨t0, t1, t2, t3, t4⟩, -⟩ := hR6.five
      have HB6 := Lib.hid hbw6
      clear hR5 hE5 hbw5 hR6 hE6 hbw6 hb6
      go_wp2_with fail
      go_ret
      exact ⟨rfl, HB6.out⟩
  · go_wp2_with fail
    go_ret
    exact ⟨rfl, H5.out.2.2⟩
end Go.Proofs.YtfkdkbekmimhoaaGreatDoor
/- The row of a law: whatever the input the call returns true, and what was there is as it was. -/
namespace Go.Proofs.YtfkdkbekmimhoaaGreatDoor
open Go.ChangeShapes Go.WideShapes Go.ChangeAt Go.RowKit

theorem Tryz.own : ownKnob Tryz.prog.godebug = none := by kernel_rfl
theorem Tryz.laidOut : laidOutB Tryz.prog = true := by kernel_rfl

section
variable {H : Type} {enc : TypeId × Value → H} {P : Program}

theorem trodAll_stays (hl : laidOutB P = true) {W W' : World} (hb : Below W.heap.size W W') (sp : Nat → Bool) : ∀ {ts : List TypeId} {vs : List Value} {ds : List (DataW H)} {ps : List MemPlace},
    ts.all (fun t => P.readableRec t && decide (t < P.types.size)) = true → DataW.TrodAll enc P W 0 (fun _ => true) true ts vs ds ps → (∀ x ∈ ps, x.block < W.heap.size) → (∀ x ∈ ps, sp x.block = true) →
    DataW.TrodAll enc P W' 0 sp true ts vs ds ps := by
  intro ts
  induction ts with
  | nil =>
    intro vs ds ps _ h _ _
    cases vs <;> cases ds <;> simp [DataW.TrodAll] at h ⊢
    exact h
  | cons t ts ih =>
    intro vs ds ps hr h hlt hsp
    obtain ⟨v, vs', d, ds', p, q, rfl, rfl, rfl, hd, hrest⟩ := trodAll_cons h
    rw [List.all_cons, Bool.and_eq_true, Bool.and_eq_true] at hr
    refine ⟨p, q, ?_, ih hr.2 hrest (fun x hx => hlt x (by simp [hx])) (fun x hx => hsp x (by simp [hx])), rfl⟩
    exact WideElems.Trod_stays hl hr.1.1 (of_decide_eq_true hr.1.2) hd (fun x hx => hb.same (hlt x (by simp [hx]))) (fun x hx => hsp x (by simp [hx]))

/-- The post of a law without variables, where nothing that was there has turned. -/
theorem law_post (hl : laidOutB P = true) {f : Func} {s : ChangeSpec} {apart fresh handsOn again : Bool} {W W' : World} {args : Array Value} {ds gs : List (DataW H)} {before : List MemPlace} {tb : TypeId}
    (hW : DataW.Whole enc P f.params.toList s.vars apart W args.toList ds gs before) (hv : s.vars = [])
    (hread : f.params.toList.all (fun t => P.readableRec t && decide (t < P.types.size)) = true)
    (hfn : s.fn H (ds ++ gs) = { results := [.lit (.bool true)], args := ds }) (hr : f.resultTypes = #[tb]) (htb : P.underlying tb = some .bool) (hb : Below W.heap.size W W') :
    s.post enc P f apart fresh handsOn again W args (.bool true) W' := by
  have hlt : ∀ p ∈ before, p.block < W.heap.size := fun p hp => hW.lt p hp
  have hW0 := hW
  obtain ⟨p, q, hA, hV, hpq, hz, hn⟩ := hW
  rw [hv] at hV
  obtain ⟨hgs, hq⟩ := trodVars_none hV
  subst hq
  rw [List.append_nil] at hpq
  subst hpq
  have hres : ∀ (b : Nat) (sp : Nat → Bool) (hd : Bool), DataW.TrodAll enc P W' b sp hd f.resultTypes.toList ((Value.bool true).resultList f.resultTypes.size) (s.fn H (ds ++ gs)).results [] := fun b sp hd => by
    rw [hfn, hr]
    exact trodAll_mk1 (shut_bool htb true)
  have hargs : ∀ sp : Nat → Bool, (∀ x ∈ before, sp x.block = true) → DataW.TrodAll enc P W' 0 sp true f.params.toList args.toList (s.fn H (ds ++ gs)).args before := fun sp hsp => by
    rw [hfn]
    exact trodAll_stays hl hb sp hread hA hlt hsp
  have hvars : ∀ sp : Nat → Bool, DataW.TrodVars enc P W' sp s.vars (s.fn H (ds ++ gs)).vars [] := fun sp => by
    rw [hfn, hv]
    rfl
  have hold : ∀ x ∈ before, (fun b => decide (b < W.heap.size)) x.block = true := fun x hx => by simpa using hlt x hx
  refine ⟨ds, gs, before, [], before, [], hW0, hres _ _ _, hargs _ hold, hvars _, World.keptBut_mono (fun x hx => ⟨hx, Or.inr (by simpa using hx)⟩) (hb.frame (· ∈ before)), fun _ => ?_⟩
  refine ⟨ok_one hr rfl (okWide_bool_mk htb true), _, _, ([] ++ before) ++ [], ⟨[] ++ before, [], trodAll_append (hargs _ (fun _ _ => rfl)) (hres _ _ _), hvars _, rfl, ?_, ?_⟩, ?_⟩
  · intro b off hp
    have hin : MemPlace.cell b off ∈ before := by simpa using hp
    rw [hb.frozen (hlt _ hin)]
    exact hz b off hin
  · intro ha
    simpa using hn ha
  · intro x hx _
    simpa using hx
end

end Go.Proofs.YtfkdkbekmimhoaaGreatDoor
/- Arguments of the types api.Node and api.Edit, opened: a tree in memory, an edit; their nodes are at most their bulk. -/
namespace Go.Proofs.YtfkdkbekmimhoaaGreatDoor
open Go.ChangeShapes Go.WideShapes Go.ChangeAt Go.RowKit Go.Deep

theorem KidsAt.mk {w : World} {B b off : Nat} (hb : b < B) : ∀ {ts : List Tree} {i : Nat}, (∀ (j : Nat) (t : Tree), ts[j]? = some t → ∃ vals, (∀ q v, vals[q]? = some v → w.cell? ⟨b, off + (i + j) * 5 + q, none⟩ = some v) ∧ TreeAt w B t vals) → KidsAt w B (some ⟨b, off, none⟩) i ts
  | [], _, _ => trivial
  | t :: ts, i, h => by
    obtain ⟨vals, h1, h2⟩ := h 0 t rfl
    refine ⟨⟨b, off, vals, rfl, hb, fun j v hj => h1 j v hj, h2⟩, KidsAt.mk hb fun j u hu => ?_⟩
    obtain ⟨vals, h3, h4⟩ := h (j + 1) u hu
    exact ⟨vals, fun q v hq => by have := h3 q v hq; rw [show i + (j + 1) = i + 1 + j by omega] at this; exact this, h4⟩

theorem choose_list {α : Type} {p : Nat → α → Prop} : ∀ m : Nat, (∀ i, i < m → ∃ x, p i x) → ∃ l : List α, l.length = m ∧ ∀ i x, l[i]? = some x → p i x := by
  intro m
  induction m with
  | zero => intro _; exact ⟨[], rfl, fun i x h => by simp at h⟩
  | succ m ih =>
    intro h
    obtain ⟨l, hl, hp⟩ := ih (fun i hi => h i (by omega))
    obtain ⟨x, hx⟩ := h m (by omega)
    refine ⟨l ++ [x], by simp [hl], fun i y hy => ?_⟩
    by_cases hi : i < l.length
    · rw [List.getElem?_append_left hi] at hy
      exact hp i y hy
    · have him : i = m := by
        have := (List.getElem?_eq_some_iff.1 hy).1
        simp at this
        omega
      subst him
      rw [List.getElem?_append_right (by omega), hl, Nat.sub_self] at hy
      simp at hy
      subst hy
      exact hx

theorem list7 {α : Type} {l : List α} (h : l.length = 7) : ∃ a b c d e f g, l = [a, b, c, d, e, f, g] := by
  match l, h with
  | [a, b, c, d, e, f, g], _ => exact ⟨a, b, c, d, e, f, g, rfl⟩

theorem list5 {α : Type} {l : List α} (h : l.length = 5) : ∃ a b c d e, l = [a, b, c, d, e] := by
  match l, h with
  | [a, b, c, d, e], _ => exact ⟨a, b, c, d, e, rfl⟩

section
variable {H : Type} {enc : TypeId × Value → H} {w : World}

theorem sum_bulk : ∀ (l : List Tree) (ds : List (DataW H)), l.length = ds.length → (∀ (i : Nat) (t : Tree) (d : DataW H), l[i]? = some t → ds[i]? = some d → 6 * countM t ≤ Rows.uptoBulk d) → 6 * countsM l ≤ Rows.uptoBulkAll ds
  | [], _, _, _ => by simp [countsM]
  | t :: l, [], h, _ => by simp at h
  | t :: l, d :: ds, h, hp => by
    have h1 := hp 0 t d rfl rfl
    have h2 := sum_bulk l ds (by simpa using h) (fun i t d ht hd => hp (i + 1) t d (by simpa using ht) (by simpa using hd))
    simp only [countsM, Rows.uptoBulkAll]
    omega

theorem one_bulk (d : DataW H) : 1 ≤ Rows.uptoBulk d := by
  cases d with
  | lit l => cases l <;> simp [Rows.uptoBulk]
  | nil => simp [Rows.uptoBulk]
  | ptr d => simp [Rows.uptoBulk]
  | slice elems spare => simp [Rows.uptoBulk]
  | agg parts => simp [Rows.uptoBulk]
  | iface t d => simp [Rows.uptoBulk]
  | map entries => simp [Rows.uptoBulk]
  | held h => simp [Rows.uptoBulk]

theorem part_bulk {d : DataW H} {l : List (DataW H)} (h : d ∈ l) : Rows.uptoBulk d ≤ Rows.uptoBulkAll l := by
  induction l with
  | nil => cases h
  | cons x r ih =>
    simp only [Rows.uptoBulkAll]
    cases List.mem_cons.1 h with
    | inl e => subst e; omega
    | inr e => have := ih e; omega

theorem Tryz.cellsNode : Tryz.prog.cellsOf 24 = 5 := by kernel_rfl
theorem Tryz.cellsInt : Tryz.prog.cellsOf 3 = 1 := by kernel_rfl
theorem Tryz.cellsStr : Tryz.prog.cellsOf 9 = 1 := by kernel_rfl
theorem Tryz.cellsKids : Tryz.prog.cellsOf 22 = 1 := by kernel_rfl

theorem Tryz.cellsEdit : Tryz.prog.cellsOf 30 = 7 := by kernel_rfl
theorem Tryz.cellsInts : Tryz.prog.cellsOf 28 = 1 := by kernel_rfl

theorem block_of {w : World} {b : Nat} {off : Nat} {spot} {v : Value} (h0 : w.cell? ⟨b, off, spot⟩ = some v) : spot = none ∧ b < w.heap.size := by
  have hspot : spot = none := World.cell?_spot h0
  subst hspot
  refine ⟨rfl, ?_⟩
  rcases Nat.lt_or_ge b w.heap.size with h1 | h1
  · exact h1
  · simp [World.cell?, Array.getElem?_eq_none h1] at h0

/-- A slice of nodes: what its elements are is known. -/
theorem open_kids {fuel : Nat} {cs : List Value} {x : DataW H × List MemPlace} (h : DataW.trod enc Tryz.prog w 0 (fun _ => true) true fuel 22 cs = some x)
    (el : ∀ (fuel : Nat) (cs : List Value) (y : DataW H × List MemPlace), DataW.trod enc Tryz.prog w 0 (fun _ => true) true fuel 24 cs = some y → Rows.uptoBulk y.1 < Rows.uptoBulk x.1 → ∃ t : Tree, TreeAt w w.heap.size t cs ∧ 6 * countM t ≤ Rows.uptoBulk y.1) :
    ∃ (A : Option Addr) (c : Nat) (l : List Tree), cs = [.slice A l.length c] ∧ l.length ≤ c ∧ KidsAt w w.heap.size A 0 l ∧ 6 * countsM l + 1 ≤ Rows.uptoBulk x.1 := by
  rcases open_slice Tryz.underlying22 h with ⟨hcs, hx⟩ | ⟨ad, len, cap, m, n', D, Pl, hcs, hb, hln, hm, hmm, hx, hi⟩
  · exact ⟨none, 0, [], hcs, Nat.le_refl _, trivial, by have := one_bulk x.1; simp only [countsM]; omega⟩
  · subst hcs
    simp only [if_true] at hmm
    subst hmm
    rw [Tryz.cellsNode] at hi
    have hbk : Rows.uptoBulkAll ((List.range len).map D) + 1 ≤ Rows.uptoBulk x.1 := by
      rw [hx]
      simp only [Rows.uptoBulk]
      omega
    have hel : ∀ i, i < len → ∃ t : Tree, 6 * countM t ≤ Rows.uptoBulk (D i) ∧ ∃ vals, TreeAt w w.heap.size t vals ∧ ∀ j u, vals[j]? = some u → w.cell? (ad.add (i * 5 + j)) = some u := fun i hil => by
      obtain ⟨cs', hc, ht⟩ := hi i (by omega)
      have hdi : Rows.uptoBulk (D i) ≤ Rows.uptoBulkAll ((List.range len).map D) := part_bulk (List.mem_map.2 ⟨i, List.mem_range.2 hil, rfl⟩)
      obtain ⟨t, h1, h2⟩ := el _ _ _ ht (by show Rows.uptoBulk (D i) < _; omega)
      refine ⟨t, h2, cs', h1, fun j u hj => ?_⟩
      obtain ⟨A5, c5, h5, -⟩ := h1.five
      have hj5 : j < 5 := by
        have := (List.getElem?_eq_some_iff.1 hj).1
        rw [h5] at this
        simpa using this
      have := (World.cells?_some hc).2.2 j hj5
      rw [hj, Go.Deep.add_add] at this
      exact this
    obtain ⟨l, hll, hlp⟩ := choose_list len hel
    have hcnt : 6 * countsM l ≤ Rows.uptoBulkAll ((List.range len).map D) := sum_bulk l _ (by simp [hll]) fun i t d ht hd => by
      have hil : i < len := by rw [← hll]; exact (List.getElem?_eq_some_iff.1 ht).1
      have : d = D i := by simpa [hil] using hd.symm
      rw [this]
      exact (hlp i t ht).1
    obtain ⟨b, off, spot⟩ := ad
    refine ⟨some ⟨b, off, spot⟩, m, l, by rw [hll], by omega, ?_, by omega⟩
    cases hl0 : l with
    | nil => trivial
    | cons t0 l0 =>
      obtain ⟨-, vals, hT, hv⟩ := hlp 0 t0 (by rw [hl0]; rfl)
      obtain ⟨A5, c5, h5, -⟩ := hT.five
      have h0 := hv 0 _ (by rw [h5]; rfl)
      obtain ⟨hs, hbl⟩ := block_of h0
      subst hs
      rw [← hl0]
      refine KidsAt.mk hbl fun j t ht => ?_
      obtain ⟨-, vals, hT, hv⟩ := hlp j t ht
      refine ⟨vals, fun q v hq => ?_, hT⟩
      have := hv q v hq
      rw [Addr.add_lit] at this
      rw [show off + (0 + j) * 5 + q = off + (j * 5 + q) by omega]
      exact this

theorem open_tree : ∀ (N : Nat) {fuel : Nat} {cs : List Value} {x : DataW H × List MemPlace}, DataW.trod enc Tryz.prog w 0 (fun _ => true) true fuel 24 cs = some x → Rows.uptoBulk x.1 ≤ N → ∃ t : Tree, TreeAt w w.heap.size t cs ∧ 6 * countM t ≤ Rows.uptoBulk x.1 := by
  intro N
  induction N with
  | zero =>
    intro fuel cs x h hN
    obtain ⟨xs, n, -, rfl, -⟩ := DataW.trod_struct Tryz.underlying24 h
    simp [Rows.uptoBulk] at hN
  | succ N ih =>
    intro fuel cs x h hN
    obtain ⟨xs, n, -, rfl, hl, hxl, hf⟩ := DataW.trod_struct Tryz.underlying24 h
    rw [Tryz.cellsNode] at hl
    obtain ⟨c0, c1, c2, c3, c4, rfl⟩ := list5 hl
    obtain ⟨y0, y1, y2, y3, y4, rfl⟩ := list5 (l := xs) (by rw [hxl]; rfl)
    have g0 := hf 0 _ rfl
    have g1 := hf 1 _ rfl
    have g2 := hf 2 _ rfl
    have g3 := hf 3 _ rfl
    have g4 := hf 4 _ rfl
    simp [Tryz.cellsInt, Tryz.cellsStr, Tryz.cellsKids] at g0 g1 g2 g3 g4
    obtain ⟨k, k0, -, -⟩ := DataW.trod_int Tryz.underlying3 g0
    obtain ⟨tx, k1, -, -⟩ := DataW.trod_string Tryz.underlying9 g1
    obtain ⟨a, k2, -, -⟩ := DataW.trod_int Tryz.underlying3 g2
    obtain ⟨z, k3, -, -⟩ := DataW.trod_int Tryz.underlying3 g3
    simp only [List.cons.injEq, and_true] at k0 k1 k2 k3
    subst k0 k1 k2 k3
    have hy4 : Rows.uptoBulk y4.1 + 5 ≤ Rows.uptoBulk (DataW.agg (List.map (·.1) [y0, y1, y2, y3, y4])) := by
      have q0 := one_bulk y0.1
      have q1 := one_bulk y1.1
      have q2 := one_bulk y2.1
      have q3 := one_bulk y3.1
      simp only [Rows.uptoBulk, Rows.uptoBulkAll, List.map_cons, List.map_nil]
      omega
    have hN' : Rows.uptoBulk (DataW.agg (List.map (·.1) [y0, y1, y2, y3, y4])) ≤ N + 1 := hN
    obtain ⟨A, c, l, hcs, hlc, hk, hc6⟩ := open_kids g4 fun fu cs' y hy hlt => ih hy (by omega)
    simp only [List.cons.injEq, and_true] at hcs
    subst hcs
    refine ⟨.node k tx a z l, ⟨A, c, rfl, hlc, hk⟩, ?_⟩
    show 6 * countM (.node k tx a z l) ≤ Rows.uptoBulk (DataW.agg (List.map (·.1) [y0, y1, y2, y3, y4]))
    simp only [countM]
    omega

theorem open_ints {fuel : Nat} {cs : List Value} {x : DataW H × List MemPlace} (h : DataW.trod enc Tryz.prog w 0 (fun _ => true) true fuel 28 cs = some x) :
    ∃ (A : Option Addr) (c : Nat) (l : List Int), cs = [.slice A l.length c] ∧ l.length ≤ c ∧ IntsAt w w.heap.size A l := by
  rcases open_slice Tryz.underlying28 h with ⟨hcs, hx⟩ | ⟨ad, len, cap, m, n', D, Pl, hcs, hb, hln, hm, hmm, hx, hi⟩
  · exact ⟨none, 0, [], hcs, Nat.le_refl _, fun k v hk => by simp at hk⟩
  · subst hcs
    simp only [if_true] at hmm
    subst hmm
    rw [Tryz.cellsInt] at hi
    have hel : ∀ i, i < len → ∃ k : Int, w.cell? (ad.add i) = some (.int .i64 k) := fun i hil => by
      obtain ⟨cs', hc, ht⟩ := hi i (by omega)
      obtain ⟨k, k0, -, -⟩ := DataW.trod_int Tryz.underlying3 ht
      subst k0
      have := (World.cells?_some hc).2.2 0 (by decide)
      rw [Go.Deep.add_add] at this
      refine ⟨k, ?_⟩
      simpa using this
    obtain ⟨l, hll, hlp⟩ := choose_list len hel
    obtain ⟨b, off, spot⟩ := ad
    refine ⟨some ⟨b, off, spot⟩, m, l, by rw [hll], by omega, fun k v hk => ?_⟩
    have h0 := hlp k v hk
    have hkl := (List.getElem?_eq_some_iff.1 hk).1
    have h00 := hlp 0 _ (List.getElem?_eq_getElem (show 0 < l.length by omega))
    have hspot : spot = none := by simpa [Addr.add] using World.cell?_spot h00
    subst hspot
    rw [Addr.add_lit] at h0
    exact ⟨b, off, rfl, (block_of h0).2, h0⟩

/-- An argument of type api.Edit. -/
theorem open_edit {fuel : Nat} {cs : List Value} {x : DataW H × List MemPlace} (h : DataW.trod enc Tryz.prog w 0 (fun _ => true) true fuel 30 cs = some x) :
    ∃ (ed : Ed) (Ap : Option Addr) (cp : Nat) (An : Option Addr) (cn : Nat), cs = edC ed Ap cp An cn ∧ ed.path.length ≤ cp ∧ ed.new.length ≤ cn ∧ IntsAt w w.heap.size Ap ed.path ∧ KidsAt w w.heap.size An 0 ed.new ∧ 6 * countsM ed.new ≤ Rows.uptoBulk x.1 := by
  obtain ⟨xs, n, -, rfl, hl, hxl, hf⟩ := DataW.trod_struct Tryz.underlying30 h
  rw [Tryz.cellsEdit] at hl
  obtain ⟨c0, c1, c2, c3, c4, c5, c6, rfl⟩ := list7 hl
  obtain ⟨y0, y1, y2, y3, y4, y5, y6, rfl⟩ := list7 (l := xs) (by rw [hxl]; rfl)
  have g0 := hf 0 _ rfl
  have g1 := hf 1 _ rfl
  have g2 := hf 2 _ rfl
  have g3 := hf 3 _ rfl
  have g4 := hf 4 _ rfl
  have g5 := hf 5 _ rfl
  have g6 := hf 6 _ rfl
  simp [Tryz.cellsInt, Tryz.cellsInts, Tryz.cellsKids] at g0 g1 g2 g3 g4 g5 g6
  obtain ⟨a1, k1, -, -⟩ := DataW.trod_int Tryz.underlying3 g1
  obtain ⟨a2, k2, -, -⟩ := DataW.trod_int Tryz.underlying3 g2
  obtain ⟨a4, k4, -, -⟩ := DataW.trod_int Tryz.underlying3 g4
  obtain ⟨a5, k5, -, -⟩ := DataW.trod_int Tryz.underlying3 g5
  obtain ⟨a6, k6, -, -⟩ := DataW.trod_int Tryz.underlying3 g6
  obtain ⟨Ap, cp, p, k0, hpc, hp⟩ := open_ints g0
  obtain ⟨An, cn, l, k3, hlc, hk, hc6⟩ := open_kids g3 fun fu cs' y hy hlt => open_tree _ hy (Nat.le_refl _)
  simp only [List.cons.injEq, and_true] at k0 k1 k2 k3 k4 k5 k6
  subst k0 k1 k2 k3 k4 k5 k6
  refine ⟨⟨p, a1, a2, l, a4, a5, a6⟩, Ap, cp, An, cn, rfl, hpc, hlc, hp, hk, ?_⟩
  show 6 * countsM l ≤ Rows.uptoBulk (DataW.agg (List.map (·.1) [y0, y1, y2, y3, y4, y5, y6]))
  simp only [Rows.uptoBulk, Rows.uptoBulkAll, List.map_cons, List.map_nil]
  omega
end

end Go.Proofs.YtfkdkbekmimhoaaGreatDoor
