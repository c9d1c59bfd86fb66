/- The graph of Solve in memory; (graph).other. -/
import Derived.Test.YtpdimehoepfgaaaDist
import Derived.Test.YtpdimehoepfgaaaMaps
import Derived.Test.YtpdimehoepfgaaaExcl
namespace Go.Proofs.Ytpdimehoepfgaaa
open Go.RowKit

structure Con where
  kind : Int
  a : Int
  b : Int
  tk : Int
  tl : Int
  tr : ByteArray
  at_ : Int
  end_ : Int

def conCells (c : Con) : List Value := [.int .i64 c.kind, .int .i64 c.a, .int .i64 c.b, .int .i64 c.tk, .int .i64 c.tl, .string c.tr, .int .i64 c.at_, .int .i64 c.end_]

def cexcl (c d : Con) : Bool := exclB c.tk c.tl c.tr d.tk d.tl d.tr

def nilS : Value := .slice none 0 0

/-- A map of slices of indices, read. -/
def MarksAt (w : World) (B r : Nat) (M : Nat → List Nat) : Prop :=
  r < B ∧ ∃ f, IMap w r f ∧ ∀ v : Nat, ∃ A c, (f v).getD (.slice none 0 0) = .slice A (M v).length c ∧ RowAt 1 natCells w B A (M v)

theorem MarksAt.below {w w' : World} {B B' r : Nat} {M : Nat → List Nat} (h : MarksAt w B r M) (hb : Below B' w w') (hB : B ≤ B') : MarksAt w' B r M := by
  obtain ⟨hr, f, hf, hv⟩ := h
  refine ⟨hr, f, hf.below hb (by omega), fun v => ?_⟩
  obtain ⟨A, c, h1, h2⟩ := hv v
  exact ⟨A, c, h1, h2.below hb hB⟩

structure GraphAt (w : World) (B : Nat) (AL AE : Option Addr) (r : Nat) (l : List Con) (E : List (List Edge)) (M : Nat → List Nat) : Prop where
  cons : RowAt 8 conCells w B AL l
  edges : EdgesAt w B AE E
  marks : MarksAt w B r M

theorem GraphAt.below {w w' : World} {B B' : Nat} {AL AE : Option Addr} {r : Nat} {l : List Con} {E : List (List Edge)} {M : Nat → List Nat} (h : GraphAt w B AL AE r l E M) (hb : Below B' w w') (hB : B ≤ B') : GraphAt w' B AL AE r l E M :=
  ⟨h.cons.below hb hB, h.edges.below hb hB, h.marks.below hb hB⟩

theorem MarksAt.mono {w : World} {B B' r : Nat} {M : Nat → List Nat} (h : MarksAt w B r M) (hB : B ≤ B') : MarksAt w B' r M := by
  obtain ⟨hr, f, hf, hv⟩ := h
  refine ⟨by omega, f, hf, fun v => ?_⟩
  obtain ⟨A, c, h1, h2⟩ := hv v
  exact ⟨A, c, h1, h2.mono hB⟩

theorem GraphAt.mono {w : World} {B B' : Nat} {AL AE : Option Addr} {r : Nat} {l : List Con} {E : List (List Edge)} {M : Nat → List Nat} (h : GraphAt w B AL AE r l E M) (hB : B ≤ B') : GraphAt w B' AL AE r l E M :=
  ⟨h.cons.mono hB, h.edges.mono hB, h.marks.mono hB⟩

/-- .. in a later world. -/
theorem GraphAt.later {w w' : World} {AL AE : Option Addr} {r : Nat} {l : List Con} {E : List (List Edge)} {M : Nat → List Nat} (h : GraphAt w w.heap.size AL AE r l E M) (hb : Below w.heap.size w w') : GraphAt w' w'.heap.size AL AE r l E M :=
  (h.below hb (Nat.le_refl _)).mono hb.size

theorem ivs_flat (l : List Nat) : ivs (l.map fun x : Nat => (x : Int)) = l.flatMap natCells := by
  induction l with
  | nil => rfl
  | cons x l ih => rw [List.flatMap_cons, ← ih]; rfl

def otherM (l : List Con) (M : Nat → List Nat) (i v : Nat) : Option Nat :=
  (M v).find? fun j => decide (i < j) && (match l[i]?, l[j]? with | some c, some d => cexcl c d | _, _ => false)

theorem find_at {p : Nat → Bool} : ∀ (l : List Nat) (k j : Nat), l[k]? = some j → (∀ x ∈ l.take k, p x = false) → p j = true → l.find? p = some j := by
  intro l
  induction l with
  | nil => intro k j h; simp at h
  | cons x l ih =>
    intro k j h hno hp
    cases k with
    | zero => simp at h; subst h; simp [hp]
    | succ k =>
      have hx := hno x (by simp)
      rw [List.find?_cons, hx]
      exact ih k j (by simpa using h) (fun y hy => hno y (by simp [hy])) hp

theorem take_snoc' {α : Type} (l : List α) (k : Nat) (x : α) (h : l[k]? = some x) : l.take (k + 1) = l.take k ++ [x] := by
  rw [List.take_add_one, h]; rfl

theorem zero_ints (w : World) : (zeroValue 33).run Try.prog w = .ok (.slice none 0 0) w := by kernel_rfl

theorem other_any (AL AE : Option Addr) (nl cL n cE r : Nat) (l : List Con) (E : List (List Edge)) (M : Nat → List Nat) (i v : Nat) (w : World)
    (hG : GraphAt w w.heap.size AL AE r l E M) (hl : l.length = nl) (hi : i < nl) (hM : ∀ j ∈ M v, j < nl) (hMl : (M v).length ≤ 1000000) :
    Calls Try.prog 41 #[.agg #[.slice AL nl cL, .slice AE n cE, .map (some r)], .int .i64 (i : Int), .int .i64 (v : Int)] w fun e w' =>
      e = .returned (.tuple #[.int .i64 (((otherM l M i v).getD 0 : Nat) : Int), .bool (otherM l M i v).isSome]) ∧ Below w.heap.size w w' := by
  obtain ⟨hr, f, hf, hv⟩ := hG.marks
  obtain ⟨A, c, hA, hrow⟩ := hv v
  have hlk := run_lookup_int (P := Try.prog) (t := 50) (kt := 3) (et := 33) Try.underlying50 Try.underlying3 zero_ints (hf.alloc (.cells #[.slice AL nl cL, .slice AE n cE, .map (some r)] 52)) v
  rw [hA] at hlk
  have HG := Lib.hid hG
  have HL := Lib.hid hl
  have HM := Lib.hid hM
  have HR := Lib.hid hrow
  clear hG hl hM hrow hf hv hA
  go_enter Try.func41, Try.ntmps41
  go_wp2_with fail
  generalize hW0 : w.alloc (.cells #[.slice AL nl cL, .slice AE n cE, .map (some r)] 52) = W0
  have hWs : W0.heap.size = w.heap.size + 1 := by rw [← hW0]; simp
  have hWb : Below w.heap.size w W0 := by rw [← hW0]; exact below_alloc w _
  have hWc : W0.cell? ⟨w.heap.size, 0, none⟩ = some (.slice AL nl cL) := by rw [← hW0]; simp
  have HWs := Lib.hid hWs
  have HWc := Lib.hid hWc
  clear hWs hWc hW0 hlk
  go_loopg [15] (M v).length (fun gk s wr => ∃ k : Nat, k + gk = (M v).length ∧ s = .int .i64 k ∧ Below (w.heap.size + 1) W0 wr ∧ ∀ j ∈ (M v).take k, (decide (i < j) && (match l[i]?, l[j]? with | some c, some d => cexcl c d | _, _ => false)) = false)
  case atStart => exact ⟨0, by omega, rfl, by have := HWs.out; rw [← this]; exact Below.refl _ _, by simp⟩
  case round =>
    obtain ⟨k, hk, rfl, hB, hno⟩ := hrel
    have hk' : k ≤ (M v).length := by omega
    have HK := Lib.hid hk
    have HNO := Lib.hid hno
    clear hk hno
    by_cases hlt : k < (M v).length
    · have hBw : Below w.heap.size w wr := hWb.trans (hB.mono (by omega))
      have hmk : (M v)[k]? = some (M v)[k] := List.getElem?_eq_getElem hlt
      obtain ⟨mb, moff, hA, hmb, hmc⟩ := (HR.out.below hBw (Nat.le_refl _)) k _ hmk
      subst hA
      have hcm : wr.cell? ⟨mb, moff + k, none⟩ = some (.int .i64 ((M v)[k] : Int)) := by simpa using hmc 0 _ rfl
      have hjn : (M v)[k] < nl := HM.out _ (List.getElem_mem hlt)
      have HMK := Lib.hid hmk
      clear hmc hmk
      generalize (M v)[k] = j at *
      have hil : i < l.length := by rw [HL.out]; exact hi
      have hjl : j < l.length := by rw [HL.out]; exact hjn
      obtain ⟨lb, loff, hA, hlb, hci⟩ := (HG.out.cons.below hBw (Nat.le_refl _)) i _ (List.getElem?_eq_getElem hil)
      obtain ⟨lb', loff', hA', _, hcj⟩ := (HG.out.cons.below hBw (Nat.le_refl _)) j _ (List.getElem?_eq_getElem hjl)
      subst hA
      cases hA'
      have hi3 : wr.cell? ⟨lb, loff + i * 8 + 3, none⟩ = some (.int .i64 l[i].tk) := hci 3 _ rfl
      have hi4 : wr.cell? ⟨lb, loff + i * 8 + 3 + 1, none⟩ = some (.int .i64 l[i].tl) := hci 4 _ rfl
      have hi5 : wr.cell? ⟨lb, loff + i * 8 + 3 + 2, none⟩ = some (.string l[i].tr) := hci 5 _ rfl
      have hj3 : wr.cell? ⟨lb, loff + j * 8 + 3, none⟩ = some (.int .i64 l[j].tk) := hcj 3 _ rfl
      have hj4 : wr.cell? ⟨lb, loff + j * 8 + 3 + 1, none⟩ = some (.int .i64 l[j].tl) := hcj 4 _ rfl
      have hj5 : wr.cell? ⟨lb, loff + j * 8 + 3 + 2, none⟩ = some (.string l[j].tr) := hcj 5 _ rfl
      have hcL : wr.cell? ⟨w.heap.size, 0, none⟩ = some (.slice (some ⟨lb, loff, none⟩) nl cL) := (hB.cell (p := ⟨w.heap.size, 0, none⟩) (by simp)).trans HWc.out
      have hsz1 : w.heap.size < wr.heap.size := by have := hB.size; have := HWs.out; omega
      have hsz2 : lb < wr.heap.size := by omega
      have hil2 : (i : Int) < (nl : Int) := by omega
      have hjl2 : (j : Int) < (nl : Int) := by omega
      have hi0 : (0 : Int) ≤ (i : Int) := by omega
      have hj0 : (0 : Int) ≤ (j : Int) := by omega
      clear hci hcj
      have hce : (decide (i < j) && (match l[i]?, l[j]? with | some c, some d => cexcl c d | _, _ => false)) = (decide (i < j) && cexcl l[i] l[j]) := by
        rw [List.getElem?_eq_getElem hil, List.getElem?_eq_getElem hjl]
      have HCE := Lib.hid hce
      clear hce
      generalize l[i] = ci at *
      generalize l[j] = cj at *
      by_cases hij : i < j
      · go_wp2_with fail
        go_region_held3 (fun w' => w'.cell? ⟨w.heap.size, 0, none⟩ = some (.slice (some ⟨lb, loff, none⟩) nl cL) ∧ w'.cell? ⟨lb, loff + i * 8 + 3, none⟩ = some (.int .i64 ci.tk) ∧ w'.cell? ⟨lb, loff + i * 8 + 3 + 1, none⟩ = some (.int .i64 ci.tl) ∧ w'.cell? ⟨lb, loff + i * 8 + 3 + 2, none⟩ = some (.string ci.tr) ∧ w'.cell? ⟨lb, loff + j * 8 + 3, none⟩ = some (.int .i64 cj.tk) ∧ w'.cell? ⟨lb, loff + j * 8 + 3 + 1, none⟩ = some (.int .i64 cj.tl) ∧ w'.cell? ⟨lb, loff + j * 8 + 3 + 2, none⟩ = some (.string cj.tr)) (first | go_keep | (refine ⟨?_, ?_, ?_, ?_, ?_, ?_, ?_⟩ <;> (rw [hb1.cell (by first | exact hsz1 | exact hsz2)]; assumption))) ((go_at_call 8; refine (Exclude_any _ _ _ _ _ _ _).mono ?_; rintro e w1 ⟨rfl, hb1⟩))
        cases hx : exclB ci.tk ci.tl ci.tr cj.tk cj.tl cj.tr
        · go_wp2_with fail
          go_roundg (gk - 1)
          case measure => have := HK.out; omega
          case rel =>
            refine ⟨k + 1, by have := HK.out; omega, by go_num, by (repeat (first | exact Below.refl _ _ | assumption | refine Below.trans ?_ (Below.mono (by assumption) (by first | omega | (simp; done) | (simp; omega))) | refine Below.alloc ?_ (by first | omega | (simp; done) | (simp; omega)) _ | refine Below.setCell ?_ (by first | omega | (simp; done) | (simp; omega)) _ | refine Below.drew ?_ | refine below_drewN ?_ _)), ?_⟩
            intro q hq
            rw [take_snoc' _ _ _ HMK.out] at hq
            rcases List.mem_append.1 hq with hq | hq
            · exact HNO.out q hq
            · rw [List.mem_singleton] at hq
              subst hq
              rw [HCE.out]
              simp [cexcl, hx]
        · have hres : otherM l M i v = some j := find_at _ _ _ HMK.out HNO.out (by rw [HCE.out]; simp [cexcl, hx, hij])
          have HRES := Lib.hid hres
          clear hres
          go_wp2_with fail
          go_ret2
          rw [HRES.out]
          exact ⟨rfl, by (repeat (first | exact Below.refl _ _ | assumption | refine Below.trans ?_ (Below.mono (by assumption) (by first | omega | (simp; done) | (simp; omega))) | refine Below.alloc ?_ (by first | omega | (simp; done) | (simp; omega)) _ | refine Below.setCell ?_ (by first | omega | (simp; done) | (simp; omega)) _ | refine Below.drew ?_ | refine below_drewN ?_ _))⟩
      · have hd : decide (i < j) = false := by simpa using hij
        go_wp2_with fail
        go_quiet (fail)
        go_wp2_with fail
        go_roundg (gk - 1)
        case measure => have := HK.out; omega
        case rel =>
          refine ⟨k + 1, by have := HK.out; omega, by go_num, by (repeat (first | exact Below.refl _ _ | assumption | refine Below.trans ?_ (Below.mono (by assumption) (by first | omega | (simp; done) | (simp; omega))) | refine Below.alloc ?_ (by first | omega | (simp; done) | (simp; omega)) _ | refine Below.setCell ?_ (by first | omega | (simp; done) | (simp; omega)) _ | refine Below.drew ?_ | refine below_drewN ?_ _)), ?_⟩
          intro q hq
          rw [take_snoc' _ _ _ HMK.out] at hq
          rcases List.mem_append.1 hq with hq | hq
          · exact HNO.out q hq
          · rw [List.mem_singleton] at hq
            subst hq
            rw [HCE.out]
            simp [hij]
    · have hkn : k = (M v).length := by omega
      have hres : otherM l M i v = none := by
        have := HNO.out
        rw [hkn, List.take_length] at this
        exact List.find?_eq_none.2 (fun x hx => by rw [this x hx]; simp)
      have HRES := Lib.hid hres
      clear hres hkn
      go_wp2_with fail
      go_ret2
      rw [HRES.out]
      exact ⟨rfl, by (repeat (first | exact Below.refl _ _ | assumption | refine Below.trans ?_ (Below.mono (by assumption) (by first | omega | (simp; done) | (simp; omega))) | refine Below.alloc ?_ (by first | omega | (simp; done) | (simp; omega)) _ | refine Below.setCell ?_ (by first | omega | (simp; done) | (simp; omega)) _ | refine Below.drew ?_ | refine below_drewN ?_ _))⟩

end Go.Proofs.Ytpdimehoepfgaaa
