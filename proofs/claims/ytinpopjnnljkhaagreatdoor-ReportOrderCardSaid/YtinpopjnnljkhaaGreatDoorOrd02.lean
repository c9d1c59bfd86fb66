/- ReportOrder: the law returns true for every source and every diagnostics. Part 2 of 17. -/
import Derived.Test.YtinpopjnnljkhaaGreatDoorOrd01
import Derived.Shelf.Strings.OnBuilder
import Derived.Shelf.Small.Wraps
import Derived.Shelf.LaysM
import Derived.Shelf.Strconv.Itoa3
import Derived.Shelf.Strings.Count
import Derived.Shelf.Sort.Plain
import Derived.Shelf.Strings.LastIndex
import Derived.Shelf.Strings.Prefix
import Derived.Shelf.Strings.Repeat
import Derived.Ground.Names2Prog
import Derived.Shelf.Slices.In.SortNone
import Derived.Ground.SlgnProg
import Derived.Test.YtinpopjnnljkhaaGreatDoorProg
import Derived.Laws.Concat
import Derived.Lib.LaidTab
import Derived.Lib.SmallJoins
import Derived.Lib.ItoaLen
import Derived.Lib.AppendIntMem
import Derived.Shelf.SlSortCmp.InsertionK
import Derived.Sort.LotA
/-
  DERIVED: THE SHELF's CONTRACTS AT THIS DUMP, IN PLAIN WORDS (tools/lay-plain.mjs out of 'TryzShelfC.lean', which tools/lay-shelf.mjs wrote): THE SAME DECLARATIONS UNDER THE SAME NAMES: 'import', 'namespace', 'open', 'def', 'theorem' AND NOTHING ELSE: no command of the shelf's: FOR A HAND-IN. Each laying: the table of numbers ('.._ren') and one theorem, a field a fact of the dump's own or the kernel's comparison; each contract: ONE APPLICATION.
-/
namespace Go.Proofs
open Go.Shelf
def Tryz.lays122_ren : Go.Shelf.Ren := ⟨fun | 122 => 28 | 215 => 57 | n => n, fun | 3 => 3 | 4 => 4 | n => n, fun | n => n⟩
theorem Tryz.lays122 : Go.Proofs.Lays.n122 Tryz.prog Tryz.lays122_ren := {
  mixed := by kernel_rfl
  f122 := Tryz.func28.trans (congrArg some (by kernel_rfl))
  f215 := Tryz.func57.trans (congrArg some (by kernel_rfl))
  t3 := Tryz.underlying3
  a3 := Tryz.isAgg3
  z3 := Tryz.sizeOf3
  v3 := Tryz.zeroValue3
  t4 := Tryz.underlying4
  a4 := Tryz.isAgg4
  z4 := Tryz.sizeOf4
  v4 := Tryz.zeroValue4 }
open Go.RowKit in
/-- cmp.Compare at int: "Compare returns -1 if x is less than y, 0 if x equals y, +1 if x is greater than y.": IT RETURNS 'Lib.compareInt x y'; the world is as it was. (LAID: no walk: one application.) -/
theorem Tryz.cmp_Compare_int (x y : Int) (w : World) :
    Calls Tryz.prog 28 #[.int .i64 x, .int .i64 y] w fun e w' => e = .returned (.int .i64 (Lib.compareInt x y)) ∧ w' = w := Any.cmp_Compare_int Tryz.lays122 x y w
def Tryz.laysM171_ren : Go.Shelf.Ren := ⟨fun | 171 => 46 | 243 => 119 | 246 => 218 | 283 => 309 | 284 => 310 | 285 => 311 | 286 => 312 | 129 => 410 | 317 => 409 | 318 => 411 | 319 => 412 | 320 => 413 | 337 => 487 | 338 => 488 | n => n, fun | 3 => 3 | 9 => 9 | 2 => 2 | 4 => 4 | 171 => 402 | 0 => 0 | 53 => 229 | 37 => 144 | 5 => 5 | 173 => 405 | 212 => 463 | 51 => 226 | 20 => 20 | 213 => 464 | 46 => 139 | 232 => 517 | 233 => 518 | n => n, fun | 17 => 1 | 18 => 2 | 19 => 3 | n => n⟩
theorem Tryz.laysM171 : Go.Proofs.LaysM.n171 Tryz.prog Tryz.laysM171_ren := {
  mixed := by kernel_rfl
  f129 := Tryz.func410.trans (congrArg some (by kernel_rfl))
  f171 := Tryz.func46.trans (congrArg some (by kernel_rfl))
  f243 := Tryz.func119.trans (congrArg some (by kernel_rfl))
  f246 := Tryz.func218.trans (congrArg some (by kernel_rfl))
  f283 := Tryz.func309.trans (congrArg some (by kernel_rfl))
  f284 := Tryz.func310.trans (congrArg some (by kernel_rfl))
  f285 := Tryz.func311.trans (congrArg some (by kernel_rfl))
  f286 := Tryz.func312.trans (congrArg some (by kernel_rfl))
  f317 := Tryz.func409.trans (congrArg some (by kernel_rfl))
  f318 := Tryz.func411.trans (congrArg some (by kernel_rfl))
  f319 := Tryz.func412.trans (congrArg some (by kernel_rfl))
  f320 := Tryz.func413.trans (congrArg some (by kernel_rfl))
  f337 := Tryz.func487.trans (congrArg some (by kernel_rfl))
  f338 := Tryz.func488.trans (congrArg some (by kernel_rfl))
  t0 := Tryz.underlying0
  a0 := Tryz.isAgg0
  z0 := Tryz.sizeOf0
  v0 := Tryz.zeroValue0
  t2 := Tryz.underlying2
  a2 := Tryz.isAgg2
  z2 := Tryz.sizeOf2
  v2 := Tryz.zeroValue2
  t3 := Tryz.underlying3
  a3 := Tryz.isAgg3
  z3 := Tryz.sizeOf3
  v3 := Tryz.zeroValue3
  t4 := Tryz.underlying4
  a4 := Tryz.isAgg4
  z4 := Tryz.sizeOf4
  v4 := Tryz.zeroValue4
  t5 := Tryz.underlying5
  a5 := Tryz.isAgg5
  z5 := Tryz.sizeOf5
  v5 := Tryz.zeroValue5
  t9 := Tryz.underlying9
  a9 := Tryz.isAgg9
  z9 := Tryz.sizeOf9
  v9 := Tryz.zeroValue9
  t20 := Tryz.underlying20
  a20 := Tryz.isAgg20
  z20 := Tryz.sizeOf20
  v20 := Tryz.zeroValue20
  t37 := Tryz.underlying144
  a37 := Tryz.isAgg144
  z37 := Tryz.sizeOf144
  v37 := Tryz.zeroValue144
  t46 := Tryz.underlying139
  a46 := Tryz.isAgg139
  z46 := Tryz.sizeOf139
  v46 := Tryz.zeroValue139
  t51 := Tryz.underlying226
  a51 := Tryz.isAgg226
  z51 := Tryz.sizeOf226
  v51 := Tryz.zeroValue226
  t53 := Tryz.underlying229
  a53 := Tryz.isAgg229
  z53 := Tryz.sizeOf229
  v53 := Tryz.zeroValue229
  t171 := Tryz.underlying402
  a171 := Tryz.isAgg402
  z171 := Tryz.sizeOf402
  v171 := Tryz.zeroValue402
  t173 := Tryz.underlying405
  a173 := Tryz.isAgg405
  z173 := Tryz.sizeOf405
  v173 := Tryz.zeroValue405
  t212 := Tryz.underlying463
  a212 := Tryz.isAgg463
  z212 := Tryz.sizeOf463
  v212 := Tryz.zeroValue463
  t213 := Tryz.underlying464
  a213 := Tryz.isAgg464
  z213 := Tryz.sizeOf464
  t232 := Tryz.underlying517
  a232 := Tryz.isAgg517
  z232 := Tryz.sizeOf517
  v232 := Tryz.zeroValue517
  t233 := Tryz.underlying518
  a233 := Tryz.isAgg518
  z233 := Tryz.sizeOf518
  v233 := Tryz.zeroValue518
  g17 := by kernel_rfl
  g18 := by kernel_rfl
  g19 := by kernel_rfl
  i0 := by kernel_rfl
  i2 := by kernel_rfl
  i3 := by kernel_rfl
  i4 := by kernel_rfl
  i5 := by kernel_rfl
  i9 := by kernel_rfl
  i20 := by kernel_rfl
  i37 := by kernel_rfl
  i46 := by kernel_rfl
  i51 := by kernel_rfl
  i53 := by kernel_rfl
  i171 := by kernel_rfl
  i173 := by kernel_rfl
  i212 := by kernel_rfl
  i232 := by kernel_rfl
  i233 := by kernel_rfl
  m17 := by kernel_rfl
  m18 := by kernel_rfl
  m19 := by kernel_rfl }
open Go.RowKit Go.Sort Go.Lib in
/-- strconv.Itoa: "Itoa is equivalent to FormatInt(int64(i), 10).": i's DECIMAL NUMERAL ('Lib.itoa': a '-' where i is negative, then the digits), FOR EVERY int. The world behind the call: the world before it, new blocks behind the heap (the library's 'var a [24]byte'), draws. (LAID: no walk: one application.) -/
theorem Tryz.strconv_Itoa (n : Int) (h0 : -9223372036854775808 ≤ n) (h1 : n ≤ 9223372036854775807) (w : World) (htab : Lib.TabIs Tryz.prog w "internal/strconv.uint64pow10" .u64 Lib.pow10Tab) :
    Calls Tryz.prog 46 #[.int .i64 n] w fun e w' => e = .returned (.string ⟨(Lib.itoa n).toArray⟩) ∧ ∃ k os, w' = grow (w.drewN k) os := Any.strconv_Itoa Tryz.laysM171 n h0 h1 w htab
def Tryz.lays171_ren : Go.Shelf.Ren := ⟨fun | 171 => 46 | 243 => 119 | 246 => 218 | 283 => 309 | 284 => 310 | 285 => 311 | 286 => 312 | 129 => 410 | 317 => 409 | 318 => 411 | 319 => 412 | 320 => 413 | 337 => 487 | 338 => 488 | n => n, fun | 3 => 3 | 9 => 9 | 2 => 2 | 4 => 4 | 171 => 402 | 0 => 0 | 53 => 229 | 37 => 144 | 5 => 5 | 173 => 405 | 212 => 463 | 51 => 226 | 20 => 20 | 213 => 464 | 46 => 139 | 232 => 517 | 233 => 518 | n => n, fun | 17 => 1 | 18 => 2 | 19 => 3 | n => n⟩
theorem Tryz.lays171 : Go.Proofs.Lays.n171 Tryz.prog Tryz.lays171_ren := {
  mixed := by kernel_rfl
  f129 := Tryz.func410.trans (congrArg some (by kernel_rfl))
  f171 := Tryz.func46.trans (congrArg some (by kernel_rfl))
  f243 := Tryz.func119.trans (congrArg some (by kernel_rfl))
  f246 := Tryz.func218.trans (congrArg some (by kernel_rfl))
  f283 := Tryz.func309.trans (congrArg some (by kernel_rfl))
  f284 := Tryz.func310.trans (congrArg some (by kernel_rfl))
  f285 := Tryz.func311.trans (congrArg some (by kernel_rfl))
  f286 := Tryz.func312.trans (congrArg some (by kernel_rfl))
  f317 := Tryz.func409.trans (congrArg some (by kernel_rfl))
  f318 := Tryz.func411.trans (congrArg some (by kernel_rfl))
  f319 := Tryz.func412.trans (congrArg some (by kernel_rfl))
  f320 := Tryz.func413.trans (congrArg some (by kernel_rfl))
  f337 := Tryz.func487.trans (congrArg some (by kernel_rfl))
  f338 := Tryz.func488.trans (congrArg some (by kernel_rfl))
  t0 := Tryz.underlying0
  a0 := Tryz.isAgg0
  z0 := Tryz.sizeOf0
  v0 := Tryz.zeroValue0
  t2 := Tryz.underlying2
  a2 := Tryz.isAgg2
  z2 := Tryz.sizeOf2
  v2 := Tryz.zeroValue2
  t3 := Tryz.underlying3
  a3 := Tryz.isAgg3
  z3 := Tryz.sizeOf3
  v3 := Tryz.zeroValue3
  t4 := Tryz.underlying4
  a4 := Tryz.isAgg4
  z4 := Tryz.sizeOf4
  v4 := Tryz.zeroValue4
  t5 := Tryz.underlying5
  a5 := Tryz.isAgg5
  z5 := Tryz.sizeOf5
  v5 := Tryz.zeroValue5
  t9 := Tryz.underlying9
  a9 := Tryz.isAgg9
  z9 := Tryz.sizeOf9
  v9 := Tryz.zeroValue9
  t20 := Tryz.underlying20
  a20 := Tryz.isAgg20
  z20 := Tryz.sizeOf20
  v20 := Tryz.zeroValue20
  t37 := Tryz.underlying144
  a37 := Tryz.isAgg144
  z37 := Tryz.sizeOf144
  v37 := Tryz.zeroValue144
  t46 := Tryz.underlying139
  a46 := Tryz.isAgg139
  z46 := Tryz.sizeOf139
  v46 := Tryz.zeroValue139
  t51 := Tryz.underlying226
  a51 := Tryz.isAgg226
  z51 := Tryz.sizeOf226
  v51 := Tryz.zeroValue226
  t53 := Tryz.underlying229
  a53 := Tryz.isAgg229
  z53 := Tryz.sizeOf229
  v53 := Tryz.zeroValue229
  t171 := Tryz.underlying402
  a171 := Tryz.isAgg402
  z171 := Tryz.sizeOf402
  v171 := Tryz.zeroValue402
  t173 := Tryz.underlying405
  a173 := Tryz.isAgg405
  z173 := Tryz.sizeOf405
  v173 := Tryz.zeroValue405
  t212 := Tryz.underlying463
  a212 := Tryz.isAgg463
  z212 := Tryz.sizeOf463
  v212 := Tryz.zeroValue463
  t213 := Tryz.underlying464
  a213 := Tryz.isAgg464
  z213 := Tryz.sizeOf464
  t232 := Tryz.underlying517
  a232 := Tryz.isAgg517
  z232 := Tryz.sizeOf517
  v232 := Tryz.zeroValue517
  t233 := Tryz.underlying518
  a233 := Tryz.isAgg518
  z233 := Tryz.sizeOf518
  v233 := Tryz.zeroValue518
  g17 := by kernel_rfl
  g18 := by kernel_rfl
  g19 := by kernel_rfl }
def Tryz.lays149_ren : Go.Shelf.Ren := ⟨fun | 149 => 59 | 222 => 133 | n => n, fun | 9 => 9 | 5 => 5 | 3 => 3 | 4 => 4 | n => n, fun | n => n⟩
theorem Tryz.lays149 : Go.Proofs.Lays.n149 Tryz.prog Tryz.lays149_ren := {
  mixed := by kernel_rfl
  f149 := Tryz.func59.trans (congrArg some (by kernel_rfl))
  f222 := Tryz.func133.trans (congrArg some (by kernel_rfl))
  t3 := Tryz.underlying3
  a3 := Tryz.isAgg3
  z3 := Tryz.sizeOf3
  v3 := Tryz.zeroValue3
  t4 := Tryz.underlying4
  a4 := Tryz.isAgg4
  z4 := Tryz.sizeOf4
  v4 := Tryz.zeroValue4
  t5 := Tryz.underlying5
  a5 := Tryz.isAgg5
  z5 := Tryz.sizeOf5
  v5 := Tryz.zeroValue5
  t9 := Tryz.underlying9
  a9 := Tryz.isAgg9
  z9 := Tryz.sizeOf9
  v9 := Tryz.zeroValue9 }
open Go.RowKit Go.Lib in
/-- strings.LastIndexByte: "LastIndexByte returns the index of the last instance of c in s, or -1 if c is not present in s." (LAID: no walk: one application.) -/
theorem Tryz.strings_LastIndexByte (s : ByteArray) (c : Int) (hs : s.size < 4611686018427387904) (w : World) :
    Calls Tryz.prog 59 #[.string s, .int .u8 c] w fun e w' => e = .returned (.int .i64 (Lib.lastIndexByte s c)) ∧ w' = w := Any.strings_LastIndexByte Tryz.lays149 s c hs w
end Go.Proofs
/- A region that draws its order, walked in an order of one's own: soft operations may be taken as soon as they are ready. No program is named here. -/
namespace Go.Proofs.YtinpopjnnljkhaaGreatDoor

/-- The k-th, so that it comes out bare. -/
def nthO : List Oper → Nat → Option Oper
  | [], _ => none
  | o :: _, 0 => some o
  | _ :: l, k + 1 => nthO l k
theorem nthO_eq : ∀ (l : List Oper) (k : Nat), nthO l k = l.toArray[k]?
  | [], k => by simp [nthO]
  | o :: l, 0 => by simp [nthO]
  | o :: l, k + 1 => by
    have := nthO_eq l k
    simp [nthO, this]

section
variable {P : Program} {ls : List Oper} {ops : Array Oper} {Q : Exit → Act → World → Prop} {md : Region.Mode} {S : World → Prop} {ex : List Nat}

/-- The walk in the order given: each operation's place, and whether it is soft. -/
def wpHO (P : Program) (ls : List Oper) (ops : Array Oper) (Q : Exit → Act → World → Prop) (S : World → Prop) (ex : List Nat) : List (Nat × Bool) → Act → World → Prop
  | [], a, w => Q .normal a w
  | (k, true) :: r, a, w => ∃ o v, nthO ls k = some o ∧ YieldsIf P ops S o v a ∧ S w ∧ wpHO P ls ops Q S ex r (a.put o.dst v) w
  | (k, false) :: r, a, w => ∃ o, nthO ls k = some o ∧ Region.wanted o (yielded ops a.tmps) = true ∧ o.wp P a w (fun a' w' => (ex.contains k = false → S w') ∧ wpHO P ls ops Q S ex r a' w') Q

/-- May the operations come up so? -/
def heldOrd (md : Region.Mode) (ops : Array Oper) (ex : List Nat) : List (Nat × Bool) → Array Bool → Bool
  | [], listed => (Region.ready md ops listed).isEmpty
  | (k, true) :: r, listed => Region.free md ops listed k && (Region.ready md ops listed).contains k && ex.all (fun j => Region.waitsFor md ops j k) && heldOrd md ops ex r (listed.setIfInBounds k true)
  | (k, false) :: r, listed => (Region.ready md ops listed == [k]) && heldOrd md ops ex r (listed.setIfInBounds k true)

theorem wpAnyT_of_HO (he : ops = ls.toArray) (hs : Region.noSelect ops = true) (hQ : ∀ c a b w, Q (.panic c) a w → Q (.panic c) b w) : ∀ (l : List (Nat × Bool)) (listed : Array Bool) (a : Act) (w : World),
    heldOrd md ops ex l listed = true → wpHO P ls ops Q S ex l a w → wpAnyT P md ops Q S ex l.length listed a w := by
  intro l
  induction l with
  | nil =>
    intro listed a w hB h
    exact ⟨by simpa [heldOrd] using hB, by simpa [wpHO] using h⟩
  | cons x rest ih =>
    intro listed a w hB h
    obtain ⟨k, s⟩ := x
    cases s with
    | true =>
      simp only [heldOrd, Bool.and_eq_true] at hB
      obtain ⟨⟨⟨h1, h2⟩, h3⟩, h4⟩ := hB
      obtain ⟨o, v, hok, hy, hS, h5⟩ := h
      rw [nthO_eq, ← he] at hok
      refine wpAnyT_first hok (Region.noSelect_spec hs) (fun j hj => ?_) (fun c a w hq => hQ c _ _ w hq) rest.length listed a w (Region.free_spec hok h1) (by simpa using h2) hy hS (ih _ _ w h4 h5)
      exact List.all_eq_true.1 h3 j hj
    | false =>
      simp only [heldOrd, Bool.and_eq_true, beq_iff_eq] at hB
      obtain ⟨h1, h2⟩ := hB
      obtain ⟨o, hok, hg, h5⟩ := h
      rw [nthO_eq, ← he] at hok
      refine ⟨fun h0 => (by rw [h0] at h1; cases h1), fun i hi => ?_⟩
      rw [h1] at hi
      simp at hi
      subst hi
      unfold wpOp
      simp only [hok, hg, if_true]
      exact .inl (Oper.wp_mono (fun a' w' h6 => ⟨fun hn => h6.1 (by simpa using hn), ih _ a' w' h2 h6.2⟩) h5)

/-- The beginning. -/
theorem wp_region_HO {id : Nat} {a : Act} {w : World} {l : List Oper} (S : World → Prop) (ex : List Nat) (od : List (Nat × Bool)) (hm : P.follows .mixedOrders = true) (hs : Region.noSelect l.toArray = true)
    (hl : od.length = l.length) (hB : heldOrd .any l.toArray ex od (Array.replicate l.length false) = true) (h : wpHO P l l.toArray (NoPanic Q) S ex od a w.drew) : (Code.region id l.toArray true).wp P Q a w := by
  refine wp_region_noPanic (wp_region_any hm (wpAny_of_T (S := S) (ex := ex) _ _ _ _ ?_))
  have := wpAnyT_of_HO (P := P) (S := S) (md := .any) rfl hs (Q := NoPanic Q) (fun c a b w hq => (hq : False).elim) od (Array.replicate l.length false) a w.drew hB h
  rw [hl] at this
  simpa using this

theorem wpHO_nil {a : Act} {w : World} (h : Q .normal a w) : wpHO P ls ops (NoPanic Q) S ex [] a w := h

theorem wpHO_soft {k : Nat} {r : List (Nat × Bool)} {o : Oper} {a : Act} {w : World} {v : Value} (ho : nthO ls k = some o) (hg : Region.wanted o (yielded ops a.tmps) = true) (hS : S w) (hy : ∀ w', S w' → (execOp a.eval o).run P w' = .ok (.value v) w')
    (h : wpHO P ls ops Q S ex r (a.put o.dst v) w) : wpHO P ls ops Q S ex ((k, true) :: r) a w :=
  ⟨o, v, ho, .inl ⟨hg, hy⟩, hS, h⟩

/-- An operation whose guard says no. -/
theorem wpHO_off {k : Nat} {r : List (Nat × Bool)} {o : Oper} {a : Act} {w : World} (ho : nthO ls k = some o) (hg : Region.wanted o (yielded ops a.tmps) = false) (hS : S w)
    (h : wpHO P ls ops Q S ex r (a.put o.dst undef) w) : wpHO P ls ops Q S ex ((k, true) :: r) a w :=
  ⟨o, undef, ho, .inr ⟨hg, rfl⟩, hS, h⟩

/-- A hard operation by its law; a call. -/
theorem wpHO_law {k : Nat} {r : List (Nat × Bool)} {o : Oper} {a : Act} {w : World} (ho : nthO ls k = some o) (hg : Region.wanted o (yielded ops a.tmps) = true)
    (h : o.wp P a w (fun a' w' => (ex.contains k = false → S w') ∧ wpHO P ls ops Q S ex r a' w') Q) : wpHO P ls ops Q S ex ((k, false) :: r) a w := ⟨o, ho, hg, h⟩
theorem wpHO_call {k : Nat} {r : List (Nat × Bool)} {o : Oper} {a : Act} {w : World} {f : FuncId} {args : Array Value} (ho : nthO ls k = some o) (hg : Region.wanted o (yielded ops a.tmps) = true)
    (hr : (execOp a.eval o).run P w = .ok (.enter f args) w) (h : Calls P f args w fun e w' => ∃ v, e = .returned v ∧ (ex.contains k = false → S w') ∧ wpHO P ls ops Q S ex r (a.put o.dst v) w') : wpHO P ls ops Q S ex ((k, false) :: r) a w :=
  ⟨o, ho, hg, by unfold Oper.wp; rw [hr]; exact h.mono (fun e w' ⟨v, he, h1, h2⟩ => by subst he; exact ⟨h1, h2⟩)⟩
end
end Go.Proofs.YtinpopjnnljkhaaGreatDoor
/- A place in a text, walked: its line, its column, its name. -/
namespace Go.Proofs.YtinpopjnnljkhaaGreatDoor
open Go.RowKit

/-- The line and the column of a place; both 0 outside. -/
def posL (s : ByteArray) (z : Int) : Int × Int :=
  if z < 0 ∨ (s.size : Int) < z then (0, 0) else (1 + ((s.extract 0 z.toNat).data.toList.count 10 : Nat), z - Lib.lastIndexByte (s.extract 0 z.toNat) 10)
def TabOk (w : World) : Prop := Lib.TabIs Tryz.prog w "internal/strconv.uint64pow10" .u64 Lib.pow10Tab

set_option maxHeartbeats 4000000 in
theorem Position_any (s : ByteArray) (z : Int) (w : World) (hs : s.size ≤ 4096) :
    Calls Tryz.prog 29 #[.string s, .int .i64 z] w fun e w' => e = .returned (.tuple #[.int .i64 (posL s z).1, .int .i64 (posL s z).2]) ∧ Below w.heap.size w w' := by
  by_cases h0 : z < 0
  · have hres : posL s z = (0, 0) := by unfold posL; rw [if_pos (.inl h0)]
    rw [hres]
    go_enter Tryz.func29, Tryz.ntmps29
    go_wp2_with fail
    refine bodyPost_ret (v := .tuple #[.int .i64 0, .int .i64 0]) (by simp [results, Tryz.results29, go_sem]) rfl ?_
    exact ⟨rfl, Below.refl _ _⟩
  by_cases h1 : (s.size : Int) < z
  · have hres : posL s z = (0, 0) := by unfold posL; rw [if_pos (.inr h1)]
    rw [hres]
    go_enter Tryz.func29, Tryz.ntmps29
    go_wp2_with fail
    refine bodyPost_ret (v := .tuple #[.int .i64 0, .int .i64 0]) (by simp [results, Tryz.results29, go_sem]) rfl ?_
    exact ⟨rfl, Below.refl _ _⟩
  obtain ⟨a, rfl⟩ : ∃ a : Nat, z = a := ⟨z.toNat, by omega⟩
  have ha : a ≤ s.size := by omega
  obtain ⟨p, hp⟩ : ∃ p, ((s.extract 0 a).data.toList.count 10 : Nat) = p := ⟨_, rfl⟩
  obtain ⟨q, hq⟩ : ∃ q, Lib.lastIndexByte (s.extract 0 a) 10 = q := ⟨_, rfl⟩
  have hpl : p ≤ 4096 := by
    rw [← hp]
    refine Nat.le_trans List.count_le_length ?_
    have : (s.extract 0 a).data.toList.length = (s.extract 0 a).size := rfl
    rw [this, ByteArray.size_extract]
    omega
  have hql : -1 ≤ q ∧ q ≤ 4096 := by
    have hz : (s.extract 0 a).size ≤ 4096 := by rw [ByteArray.size_extract]; omega
    rcases Lib.lastIdx_spec (s.extract 0 a) 10 (s.extract 0 a).size with ⟨h, -⟩ | ⟨i, h2, h, -⟩
    · rw [← hq]; unfold Lib.lastIndexByte; rw [h]; omega
    · rw [← hq]; unfold Lib.lastIndexByte; rw [h]; omega
  have hres : posL s a = (1 + (p : Int), (a : Int) - q) := by
    unfold posL
    rw [if_neg (by omega)]
    simp only [Int.toNat_natCast]
    rw [hp, hq]
  rw [hres]
  have HC : Hid (∀ w, Calls Tryz.prog 58 #[.string (s.extract 0 a), .string ⟨#[10]⟩] w fun e w' => e = .returned (.int .i64 (p : Int)) ∧ w' = w) := Lib.hid fun w => by
    have := Tryz.strings_Count_one (s.extract 0 a) 10 w
    unfold Lib.countByte at this
    rw [hp] at this
    exact this
  have HL : Hid (∀ w, Calls Tryz.prog 59 #[.string (s.extract 0 a), .int .u8 10] w fun e w' => e = .returned (.int .i64 q) ∧ w' = w) := Lib.hid fun w => by
    have := Tryz.strings_LastIndexByte (s.extract 0 a) 10 (by rw [ByteArray.size_extract]; omega) w
    rw [hq] at this
    exact this
  have hai : (a : Int) ≤ s.size := by omega
  have hwp : IntKind.i64.wrap (1 + (p : Int)) = 1 + (p : Int) := IntWalk.i64_in _ (by omega)
  have hwq : IntKind.i64.wrap ((a : Int) - q) = (a : Int) - q := IntWalk.i64_in _ (by omega)
  clear hres hp hq h0
  go_enter Tryz.func29, Tryz.ntmps29
  go_wp2_with fail
  refine wp_region_HO (fun _ => True) [] [(0, true), (1, true), (2, true), (5, true), (6, true), (7, true), (8, true), (3, false), (4, true), (9, false), (10, true), (11, true), (12, true)] (by kernel_rfl) (by kernel_rfl) rfl (by kernel_rfl) ?_
  have hS0 : True := trivial
  first | (refine wpHO_off rfl (by rfl) hS0 ?_) | (refine wpHO_soft rfl (by rfl) hS0 (by intro w1 hs1; go_simp; rfl) ?_)
  simp only [Act.put, List.setIfInBounds_toArray, List.set_cons_zero, List.set_cons_succ]
  first | (refine wpHO_off rfl (by rfl) hS0 ?_) | (refine wpHO_soft rfl (by rfl) hS0 (by intro w1 hs1; go_simp; rfl) ?_)
  simp only [Act.put, List.setIfInBounds_toArray, List.set_cons_zero, List.set_cons_succ]
  first | (refine wpHO_off rfl (by rfl) hS0 ?_) | (refine wpHO_soft rfl (by rfl) hS0 (by intro w1 hs1; go_simp; rfl) ?_)
  simp only [Act.put, List.setIfInBounds_toArray, List.set_cons_zero, List.set_cons_succ]
  first | (refine wpHO_off rfl (by rfl) hS0 ?_) | (refine wpHO_soft rfl (by rfl) hS0 (by intro w1 hs1; go_simp; rfl) ?_)
  simp only [Act.put, List.setIfInBounds_toArray, List.set_cons_zero, List.set_cons_succ]
  first | (refine wpHO_off rfl (by rfl) hS0 ?_) | (refine wpHO_soft rfl (by rfl) hS0 (by intro w1 hs1; go_simp; rfl) ?_)
  simp only [Act.put, List.setIfInBounds_toArray, List.set_cons_zero, List.set_cons_succ]
  first | (refine wpHO_off rfl (by rfl) hS0 ?_) | (refine wpHO_soft rfl (by rfl) hS0 (by intro w1 hs1; go_simp; rfl) ?_)
  simp only [Act.put, List.setIfInBounds_toArray, List.set_cons_zero, List.set_cons_succ]
  first | (refine wpHO_off rfl (by rfl) hS0 ?_) | (refine wpHO_soft rfl (by rfl) hS0 (by intro w1 hs1; go_simp; rfl) ?_)
  simp only [Act.put, List.setIfInBounds_toArray, List.set_cons_zero, List.set_cons_succ]
  refine wpHO_call rfl (by rfl) (by go_simp) ((HC.out _).mono ?_)
  rintro e w' ⟨rfl, rfl⟩
  refine ⟨_, rfl, fun _ => trivial, ?_⟩
  simp only [Act.put, List.setIfInBounds_toArray, List.set_cons_zero, List.set_cons_succ]
  first | (refine wpHO_off rfl (by rfl) hS0 ?_) | (refine wpHO_soft rfl (by rfl) hS0 (by intro w1 hs1; go_simp; rfl) ?_)
  simp only [Act.put, List.setIfInBounds_toArray, List.set_cons_zero, List.set_cons_succ]
  refine wpHO_call rfl (by rfl) (by go_simp) ((HL.out _).mono ?_)
  rintro e w' ⟨rfl, rfl⟩
  refine ⟨_, rfl, fun _ => trivial, ?_⟩
  simp only [Act.put, List.setIfInBounds_toArray, List.set_cons_zero, List.set_cons_succ]
  first | (refine wpHO_off rfl (by rfl) hS0 ?_) | (refine wpHO_soft rfl (by rfl) hS0 (by intro w1 hs1; go_simp; rfl) ?_)
  simp only [Act.put, List.setIfInBounds_toArray, List.set_cons_zero, List.set_cons_succ]
  first | (refine wpHO_off rfl (by rfl) hS0 ?_) | (refine wpHO_soft rfl (by rfl) hS0 (by intro w1 hs1; go_simp; rfl) ?_)
  simp only [Act.put, List.setIfInBounds_toArray, List.set_cons_zero, List.set_cons_succ]
  first | (refine wpHO_off rfl (by rfl) hS0 ?_) | (refine wpHO_soft rfl (by rfl) hS0 (by intro w1 hs1; go_simp; rfl) ?_)
  simp only [Act.put, List.setIfInBounds_toArray, List.set_cons_zero, List.set_cons_succ]
  refine wpHO_nil ?_
  go_wp2_with fail
  refine bodyPost_ret (v := .tuple #[.int .i64 (1 + (p : Int)), .int .i64 ((a : Int) - q)]) (by simp [results, Tryz.results29, go_sem]) rfl ?_
  exact ⟨rfl, (Below.refl _ _).drew⟩
end Go.Proofs.YtinpopjnnljkhaaGreatDoor
/- The name of a place in a text, walked. -/
namespace Go.Proofs.YtinpopjnnljkhaaGreatDoor
open Go.RowKit

theorem tab_glob : Tryz.prog.globalNamed "internal/strconv.uint64pow10" = some 1 := by kernel_rfl
theorem TabOk.below {w w' : World} (h : TabOk w) (hb : Below w.heap.size w w') : TabOk w' := by
  exact Joins.tab_stays tab_glob h hb (Nat.le_refl _)
def okI (z : Int) : Prop := -9223372036854775808 ≤ z ∧ z ≤ 9223372036854775807
def itoaB (n : Int) : ByteArray := ⟨(Lib.itoa n).toArray⟩
theorem itoaB_size {n : Int} (h : okI n) : (itoaB n).size ≤ 21 := by
  have := Lib.itoa_length_le n h.1 h.2
  have e : (itoaB n).size = (Lib.itoa n).length := by simp [itoaB, ByteArray.size]
  omega
theorem Itoa_any (n : Int) (w : World) (h : okI n) (ht : TabOk w) : Calls Tryz.prog 46 #[.int .i64 n] w fun e w' => e = .returned (.string (itoaB n)) ∧ Below w.heap.size w w' :=
  (Tryz.strconv_Itoa n h.1 h.2 w ht).mono fun e w' ⟨h1, k, os, h2⟩ => ⟨h1, by rw [h2]; exact Lib.below_grow _ _ (Nat.le_refl _) _ _⟩
theorem posL_ok (s : ByteArray) (z : Int) (hs : s.size ≤ 4096) : (0 ≤ (posL s z).1 ∧ (posL s z).1 ≤ 4097) ∧ (0 ≤ (posL s z).2 ∧ (posL s z).2 ≤ 4097) := by
  unfold posL
  by_cases h : z < 0 ∨ (s.size : Int) < z
  · rw [if_pos h]; simp
  · rw [if_neg h]
    obtain ⟨a, rfl⟩ : ∃ a : Nat, z = a := ⟨z.toNat, by omega⟩
    simp only [Int.toNat_natCast]
    have hsz : (s.extract 0 a).size = a := by rw [ByteArray.size_extract]; omega
    have h1 : (s.extract 0 a).data.toList.count 10 ≤ a := by
      refine Nat.le_trans List.count_le_length ?_
      have : (s.extract 0 a).data.toList.length = (s.extract 0 a).size := rfl
      omega
    have h2 : -1 ≤ Lib.lastIndexByte (s.extract 0 a) 10 ∧ Lib.lastIndexByte (s.extract 0 a) 10 ≤ (a : Int) := by
      unfold Lib.lastIndexByte
      rw [hsz]
      rcases Lib.lastIdx_spec (s.extract 0 a) 10 a with ⟨h, -⟩ | ⟨i, h2, h, -⟩
      · rw [h]; omega
      · rw [h]; omega
    omega
def posS (s : ByteArray) (z : Int) : ByteArray := (⟨#[108, 105, 110, 101, 32]⟩ ++ itoaB (posL s z).1 ++ ⟨#[44, 32, 99, 111, 108, 117, 109, 110, 32]⟩ ++ itoaB (posL s z).2 ++ ⟨#[58, 32]⟩)
theorem posS_size (s : ByteArray) (z : Int) (hs : s.size ≤ 4096) : (posS s z).size ≤ 60 := by
  obtain ⟨h1, h2⟩ := posL_ok s z hs
  have a1 := itoaB_size (n := (posL s z).1) ⟨by omega, by omega⟩
  have a2 := itoaB_size (n := (posL s z).2) ⟨by omega, by omega⟩
  unfold posS
  simp only [ByteArray.size_append]
  have e1 : (⟨#[108, 105, 110, 101, 32]⟩ : ByteArray).size = 5 := rfl
  have e2 : (⟨#[44, 32, 99, 111, 108, 117, 109, 110, 32]⟩ : ByteArray).size = 9 := rfl
  have e3 : (⟨#[58, 32]⟩ : ByteArray).size = 2 := rfl
  omega

set_option maxHeartbeats 4000000 in
set_option maxRecDepth 100000 in
theorem position_any (s : ByteArray) (z : Int) (w : World) (hs : s.size ≤ 4096) (ht : TabOk w) :
    Calls Tryz.prog 30 #[.string s, .int .i64 z] w fun e w' => e = .returned (.string (posS s z)) ∧ Below w.heap.size w w' := by
  have HP := Lib.hid (Position_any s z w hs)
  have hok := posL_ok s z hs
  have HT := Lib.hid ht
  have hdef : posS s z = (⟨#[108, 105, 110, 101, 32]⟩ ++ itoaB (posL s z).1 ++ ⟨#[44, 32, 99, 111, 108, 117, 109, 110, 32]⟩ ++ itoaB (posL s z).2 ++ ⟨#[58, 32]⟩) := rfl
  obtain ⟨l, hl⟩ : ∃ l, (posL s z).1 = l := ⟨_, rfl⟩
  obtain ⟨c, hc⟩ : ∃ c, (posL s z).2 = c := ⟨_, rfl⟩
  rw [hl, hc] at hdef hok
  rw [hl, hc] at HP
  have b1 := itoaB_size (n := l) ⟨by omega, by omega⟩
  have b2 := itoaB_size (n := c) ⟨by omega, by omega⟩
  have HI : Hid (∀ w, TabOk w → Calls Tryz.prog 46 #[.int .i64 l] w fun e w' => e = .returned (.string (itoaB l)) ∧ Below w.heap.size w w') := Lib.hid fun w h => Itoa_any l w ⟨by omega, by omega⟩ h
  have HJ : Hid (∀ w, TabOk w → Calls Tryz.prog 46 #[.int .i64 c] w fun e w' => e = .returned (.string (itoaB c)) ∧ Below w.heap.size w w') := Lib.hid fun w h => Itoa_any c w ⟨by omega, by omega⟩ h
  obtain ⟨x, hx⟩ : ∃ x, itoaB l = x := ⟨_, rfl⟩
  obtain ⟨y, hy⟩ : ∃ y, itoaB c = y := ⟨_, rfl⟩
  rw [hx] at hdef HI b1
  rw [hy] at hdef HJ b2
  have z1 : ¬ (9223372036854775807 < 5 + x.size) := by omega
  have z2 : ¬ (9223372036854775807 < 5 + x.size + 9) := by omega
  have z3 : ¬ (9223372036854775807 < 5 + x.size + 9 + y.size) := by omega
  have z4 : ¬ (9223372036854775807 < 5 + x.size + 9 + y.size + 2) := by omega
  have HDEF := Lib.hid hdef
  clear hdef hl hc hx hy ht hok
  go_enter Tryz.func30, Tryz.ntmps30
  go_wp2_with fail
  refine HP.out.mono ?_
  rintro e w1 ⟨rfl, hb1⟩
  have HB1 := Lib.hid hb1
  have HT1 := Lib.hid (HT.out.below hb1)
  clear hb1
  go_wp2_with fail
  refine (HI.out _ HT1.out).mono ?_
  rintro e w2 ⟨rfl, hb2⟩
  have HB2 := Lib.hid (HB1.out.trans (hb2.mono HB1.out.size))
  have HT2 := Lib.hid (HT1.out.below hb2)
  clear hb2
  go_wp2_with fail
  refine (HJ.out _ HT2.out).mono ?_
  rintro e w3 ⟨rfl, hb3⟩
  have HB3 := Lib.hid (HB2.out.trans (hb3.mono HB2.out.size))
  clear hb3
  go_wp2_with fail
  go_ret
  rw [HDEF.out]
  exact ⟨rfl, HB3.out⟩
end Go.Proofs.YtinpopjnnljkhaaGreatDoor
/- A diagnostic's message, walked. -/
namespace Go.Proofs.YtinpopjnnljkhaaGreatDoor
open Go.RowKit

structure Dstp where
  kind : Int
  at_ : Int
  fin : Int
  text : ByteArray
structure Dg where
  code : Int
  at_ : Int
  fin : Int
  text : ByteArray
  chain : List Dstp
def msgL : List ByteArray := [⟨#[]⟩, ⟨#[117, 110, 101, 120, 112, 101, 99, 116, 101, 100, 32, 98, 121, 116, 101, 115]⟩, ⟨#[116, 104, 105, 115, 32, 110, 117, 109, 98, 101, 114, 32, 105, 115, 32, 116, 111, 111, 32, 108, 97, 114, 103, 101]⟩, ⟨#[116, 104, 105, 115, 32, 110, 97, 109, 101, 32, 105, 115, 32, 116, 111, 111, 32, 108, 111, 110, 103]⟩, ⟨#[]⟩, ⟨#[101, 120, 112, 101, 99, 116, 101, 100, 32, 97, 110, 32, 101, 120, 112, 114, 101, 115, 115, 105, 111, 110]⟩, ⟨#[116, 104, 105, 115, 32, 105, 115, 32, 110, 111, 116, 32, 97, 32, 115, 116, 97, 116, 101, 109, 101, 110, 116]⟩, ⟨#[116, 104, 105, 115, 32, 105, 115, 32, 110, 111, 116, 32, 97, 32, 114, 101, 99, 111, 114, 100, 32, 111, 114, 32, 97, 32, 112, 114, 111, 99, 101, 100, 117, 114, 101]⟩, ⟨#[]⟩, ⟨#[]⟩, ⟨#[116, 104, 101, 114, 101, 32, 97, 114, 101, 32, 116, 111, 111, 32, 109, 97, 110, 121, 32, 111, 102, 32, 116, 104, 101, 115, 101]⟩, ⟨#[116, 104, 101, 32, 110, 117, 109, 98, 101, 114, 32, 111, 102, 32, 97, 114, 103, 117, 109, 101, 110, 116, 115, 32, 105, 115, 32, 119, 114, 111, 110, 103]⟩, ⟨#[116, 104, 105, 115, 32, 112, 114, 111, 99, 101, 100, 117, 114, 101, 32, 99, 97, 110, 110, 111, 116, 32, 98, 101, 32, 99, 97, 108, 108, 101, 100, 32, 104, 101, 114, 101]⟩, ⟨#[116, 104, 105, 115, 32, 97, 114, 103, 117, 109, 101, 110, 116, 32, 109, 117, 115, 116, 32, 98, 101, 32, 97, 32, 118, 97, 114, 105, 97, 98, 108, 101, 32, 116, 104, 97, 116, 32, 105, 115, 32, 110, 111, 116, 32, 112, 97, 115, 115, 101, 100, 32, 116, 119, 105, 99, 101]⟩, ⟨#[116, 104, 101, 32, 118, 97, 114, 105, 97, 98, 108, 101, 32, 111, 102, 32, 97, 32, 102, 111, 114, 32, 108, 111, 111, 112, 32, 99, 97, 110, 110, 111, 116, 32, 98, 101, 32, 99, 104, 97, 110, 103, 101, 100]⟩, ⟨#[116, 104, 105, 115, 32, 112, 114, 111, 99, 101, 100, 117, 114, 101, 32, 99, 97, 108, 108, 115, 32, 105, 116, 115, 101, 108, 102]⟩, ⟨#[116, 104, 105, 115, 32, 114, 101, 116, 117, 114, 110, 32, 100, 111, 101, 115, 32, 110, 111, 116, 32, 102, 105, 116, 32, 116, 104, 101, 32, 112, 114, 111, 99, 101, 100, 117, 114, 101]⟩, ⟨#[97, 32, 112, 114, 111, 99, 101, 100, 117, 114, 101, 32, 119, 105, 116, 104, 32, 97, 32, 114, 101, 115, 117, 108, 116, 32, 99, 97, 110, 110, 111, 116, 32, 104, 97, 118, 101, 32, 118, 97, 114, 32, 112, 97, 114, 97, 109, 101, 116, 101, 114, 115]⟩, ⟨#[116, 104, 101, 115, 101, 32, 116, 121, 112, 101, 115, 32, 100, 111, 32, 110, 111, 116, 32, 102, 105, 116]⟩, ⟨#[116, 104, 105, 115, 32, 116, 121, 112, 101, 32, 105, 115, 32, 110, 111, 116, 32, 107, 110, 111, 119, 110]⟩, ⟨#[116, 104, 101, 32, 112, 114, 111, 103, 114, 97, 109, 32, 105, 115, 32, 116, 111, 111, 32, 108, 97, 114, 103, 101]⟩, ⟨#[116, 104, 101, 32, 112, 114, 111, 103, 114, 97, 109, 32, 105, 115, 32, 110, 101, 115, 116, 101, 100, 32, 116, 111, 111, 32, 100, 101, 101, 112, 108, 121]⟩, ⟨#[116, 104, 105, 115, 32, 112, 114, 111, 99, 101, 100, 117, 114, 101, 32, 104, 97, 115, 32, 116, 111, 111, 32, 109, 97, 110, 121, 32, 118, 97, 114, 105, 97, 98, 108, 101, 115]⟩]
def msgM (d : Dg) : ByteArray :=
  if d.code = 4 then (⟨#[101, 120, 112, 101, 99, 116, 101, 100, 32]⟩ : ByteArray) ++ d.text else if d.code = 8 then d.text ++ (⟨#[32, 105, 115, 32, 110, 111, 116, 32, 100, 101, 99, 108, 97, 114, 101, 100]⟩ : ByteArray) else if d.code = 9 then d.text ++ (⟨#[32, 105, 115, 32, 97, 108, 114, 101, 97, 100, 121, 32, 100, 101, 99, 108, 97, 114, 101, 100]⟩ : ByteArray)
  else if d.code < 1 ∨ 23 ≤ d.code then (⟨#[112, 114, 111, 98, 108, 101, 109, 32]⟩ : ByteArray) ++ itoaB d.code else msgL.getD d.code.toNat ⟨#[]⟩
theorem msgs_small : (msgL.all fun m => decide (m.size ≤ 60)) = true := by decide +kernel
theorem msgM_size {d : Dg} (h : d.text.size ≤ 100) (hc : okI d.code) : (msgM d).size ≤ 200 := by
  unfold msgM
  have e1 : (⟨#[101, 120, 112, 101, 99, 116, 101, 100, 32]⟩ : ByteArray).size = 9 := rfl
  have e2 : (⟨#[32, 105, 115, 32, 110, 111, 116, 32, 100, 101, 99, 108, 97, 114, 101, 100]⟩ : ByteArray).size = 16 := rfl
  have e3 : (⟨#[32, 105, 115, 32, 97, 108, 114, 101, 97, 100, 121, 32, 100, 101, 99, 108, 97, 114, 101, 100]⟩ : ByteArray).size = 20 := rfl
  have e4 : (⟨#[112, 114, 111, 98, 108, 101, 109, 32]⟩ : ByteArray).size = 8 := rfl
  have e5 := itoaB_size hc
  split
  · rw [ByteArray.size_append]; omega
  · split
    · rw [ByteArray.size_append]; omega
    · split
      · rw [ByteArray.size_append]; omega
      · split
        · rw [ByteArray.size_append]; omega
        · have hall := List.all_eq_true.1 msgs_small
          rw [List.getD_eq_getElem?_getD]
          cases hg : msgL[d.code.toNat]? with
          | none => exact Nat.zero_le _
          | some m =>
            have := hall m (List.mem_of_getElem? hg)
            simp only [decide_eq_true_eq] at this
            show m.size ≤ 200
            omega

set_option maxHeartbeats 4000000 in
theorem messages_any (w : World) : Calls Tryz.prog 50 #[] w fun e w' => e = .returned (.slice (some ⟨w.heap.size, 0, none⟩) 23 23) ∧ w' = w.alloc (.cells (strV msgL).toArray 9) := by
  go_enter Tryz.func50, Tryz.ntmps50
  go_wp2_with fail
  go_ret
  exact ⟨rfl, rfl⟩
end Go.Proofs.YtinpopjnnljkhaaGreatDoor
/- Message, walked. -/
namespace Go.Proofs.YtinpopjnnljkhaaGreatDoor
open Go.RowKit

theorem wpHO_run {P : Program} {ls : List Oper} {ops : Array Oper} {Q : Exit → Act → World → Prop} {S : World → Prop} {ex : List Nat} {k : Nat} {r : List (Nat × Bool)} {o : Oper} {a : Act} {w w' : World} {v : Value} (ho : nthO ls k = some o) (hg : Region.wanted o (yielded ops a.tmps) = true)
    (hr : (execOp a.eval o).run P w = .ok (.value v) w') (hS : ex.contains k = false → S w') (h : wpHO P ls ops Q S ex r (a.put o.dst v) w') : wpHO P ls ops Q S ex ((k, false) :: r) a w :=
  wpHO_law ho hg (by unfold Oper.wp; rw [hr]; exact ⟨hS, h⟩)

set_option maxHeartbeats 8000000 in
set_option maxRecDepth 100000 in
theorem Message_any (d : Dg) (cv : Value) (w : World) (ht : d.text.size ≤ 100) (hc : okI d.code) (hT : TabOk w) :
    Calls Tryz.prog 20 #[.agg #[.int .i64 d.code, .int .i64 d.at_, .int .i64 d.fin, .string d.text, cv]] w fun e w' => e = .returned (.string (msgM d)) ∧ Below w.heap.size w w' := by
  obtain ⟨W, hW⟩ : ∃ W, w.alloc (.cells #[.int .i64 d.code, .int .i64 d.at_, .int .i64 d.fin, .string d.text, cv] 35) = W := ⟨_, rfl⟩
  have hb : Below w.heap.size w W := by rw [← hW]; exact below_alloc _ _
  have hx : Blk W w.heap.size 35 #[.int .i64 d.code, .int .i64 d.at_, .int .i64 d.fin, .string d.text, cv] := by rw [← hW]; exact Blk.new w _ _
  have HT := Lib.hid (hT.below hb)
  have HB := Lib.hid hb
  have hlt := hx.lt
  have x0 := hx.cell 0
  have x3 := hx.cell 3
  have HX := Lib.hid hx
  obtain ⟨code, at_, fin, text, chain⟩ := d
  simp only at hW x0 x3 ht hc
  obtain ⟨M, hM⟩ : ∃ M, msgM ⟨code, at_, fin, text, chain⟩ = M := ⟨_, rfl⟩
  rw [hM]
  unfold msgM at hM
  simp only at hM
  replace x0 : W.cell? ⟨w.heap.size, 0, none⟩ = some (.int .i64 code) := x0
  replace x3 : W.cell? ⟨w.heap.size, 3, none⟩ = some (.string text) := x3
  clear hb hx hT HX
  by_cases h4 : code = 4
  · subst h4
    have HM := Lib.hid (by simpa using hM.symm)
    have z1 : ¬ (9223372036854775807 < 9 + text.size) := by omega
    clear hM
    go_enter Tryz.func20, Tryz.ntmps20
    go_wp2_with (rw [hW])
    go_ret
    exact ⟨by rw [HM.out]; rfl, HB.out⟩
  by_cases h8 : code = 8
  · subst h8
    have HM := Lib.hid (by simpa using hM.symm)
    have z1 : ¬ (9223372036854775807 < text.size + 16) := by omega
    clear hM
    go_enter Tryz.func20, Tryz.ntmps20
    go_wp2_with (rw [hW])
    go_ret
    exact ⟨by rw [HM.out]; rfl, HB.out⟩
  by_cases h9 : code = 9
  · subst h9
    have HM := Lib.hid (by simpa using hM.symm)
    have z1 : ¬ (9223372036854775807 < text.size + 24) := by omega
    clear hM
    go_enter Tryz.func20, Tryz.ntmps20
    go_wp2_with (rw [hW])
    go_ret
    exact ⟨by rw [HM.out]; rfl, HB.out⟩
  have n4 : (code == 4) = false := by simp; omega
  have n8 : (code == 8) = false := by simp; omega
  have n9 : (code == 9) = false := by simp; omega
  by_cases h1 : code < 1
  · obtain ⟨y, hy⟩ : ∃ y, itoaB code = y := ⟨_, rfl⟩
    have hys := itoaB_size hc
    rw [hy] at hys
    have HI : Hid (∀ w, TabOk w → Calls Tryz.prog 46 #[.int .i64 code] w fun e w' => e = .returned (.string y) ∧ Below w.heap.size w w') := Lib.hid fun w h => by rw [← hy]; exact Itoa_any code w hc h
    have HM := Lib.hid (show M = ⟨#[112, 114, 111, 98, 108, 101, 109, 32]⟩ ++ y by rw [← hM, if_neg h4, if_neg h8, if_neg h9, if_pos (by omega), hy])
    have z1 : ¬ (9223372036854775807 < 8 + y.size) := by omega
    clear hM hy
    go_enter Tryz.func20, Tryz.ntmps20
    go_wp2_with (rw [hW])
    refine wp_region_HO (fun W' => W'.cell? ⟨w.heap.size, 0, none⟩ = some (.int .i64 code)) [] [(0, true), (1, true), (2, true), (3, true), (4, true), (5, true), (6, true), (7, true), (8, true), (9, true), (10, true)] (by kernel_rfl) (by kernel_rfl) rfl (by kernel_rfl) ?_
    have hS0 := x0
    first | (refine wpHO_off rfl (by rfl) hS0 ?_) | (refine wpHO_soft rfl (by rfl) hS0 (by intro w1 hs1; go_simp; rfl) ?_)
    simp only [Act.put, List.setIfInBounds_toArray, List.set_cons_zero, List.set_cons_succ]
    first | (refine wpHO_off rfl (by rfl) hS0 ?_) | (refine wpHO_soft rfl (by rfl) hS0 (by intro w1 hs1; go_simp; rfl) ?_)
    simp only [Act.put, List.setIfInBounds_toArray, List.set_cons_zero, List.set_cons_succ]
    first | (refine wpHO_off rfl (by rfl) hS0 ?_) | (refine wpHO_soft rfl (by rfl) hS0 (by intro w1 hs1; go_simp; rfl) ?_)
    simp only [Act.put, List.setIfInBounds_toArray, List.set_cons_zero, List.set_cons_succ]
    first | (refine wpHO_off rfl (by rfl) hS0 ?_) | (refine wpHO_soft rfl (by rfl) hS0 (by intro w1 hs1; go_simp; rfl) ?_)
    simp only [Act.put, List.setIfInBounds_toArray, List.set_cons_zero, List.set_cons_succ]
    first | (refine wpHO_off rfl (by rfl) hS0 ?_) | (refine wpHO_soft rfl (by rfl) hS0 (by intro w1 hs1; go_simp; rfl) ?_)
    simp only [Act.put, List.setIfInBounds_toArray, List.set_cons_zero, List.set_cons_succ]
    first | (refine wpHO_off rfl (by rfl) hS0 ?_) | (refine wpHO_soft rfl (by rfl) hS0 (by intro w1 hs1; go_simp; rfl) ?_)
    simp only [Act.put, List.setIfInBounds_toArray, List.set_cons_zero, List.set_cons_succ]
    first | (refine wpHO_off rfl (by rfl) hS0 ?_) | (refine wpHO_soft rfl (by rfl) hS0 (by intro w1 hs1; go_simp; rfl) ?_)
    simp only [Act.put, List.setIfInBounds_toArray, List.set_cons_zero, List.set_cons_succ]
    first | (refine wpHO_off rfl (by rfl) hS0 ?_) | (refine wpHO_soft rfl (by rfl) hS0 (by intro w1 hs1; go_simp; rfl) ?_)
    simp only [Act.put, List.setIfInBounds_toArray, List.set_cons_zero, List.set_cons_succ]
    first | (refine wpHO_off rfl (by rfl) hS0 ?_) | (refine wpHO_soft rfl (by rfl) hS0 (by intro w1 hs1; go_simp; rfl) ?_)
    simp only [Act.put, List.setIfInBounds_toArray, List.set_cons_zero, List.set_cons_succ]
    first | (refine wpHO_off rfl (by rfl) hS0 ?_) | (refine wpHO_soft rfl (by rfl) hS0 (by intro w1 hs1; go_simp; rfl) ?_)
    simp only [Act.put, List.setIfInBounds_toArray, List.set_cons_zero, List.set_cons_succ]
    first | (refine wpHO_off rfl (by rfl) hS0 ?_) | (refine wpHO_soft rfl (by rfl) hS0 (by intro w1 hs1; go_simp; rfl) ?_)
    simp only [Act.put, List.setIfInBounds_toArray, List.set_cons_zero, List.set_cons_succ]
    refine wpHO_nil ?_
    go_wp2_with fail
    refine (HI.out _ (HT.out.below (Below.refl _ _).drew)).mono ?_
    rintro e w2 ⟨rfl, hb2⟩
    have HB2 := Lib.hid (HB.out.drew.trans (hb2.mono HB.out.drew.size))
    clear hb2
    go_wp2_with fail
    go_ret
    exact ⟨by rw [HM.out]; rfl, HB2.out⟩
  by_cases h23 : 23 ≤ code
  · obtain ⟨y, hy⟩ : ∃ y, itoaB code = y := ⟨_, rfl⟩
    have hys := itoaB_size hc
    rw [hy] at hys
    have HI : Hid (∀ w, TabOk w → Calls Tryz.prog 46 #[.int .i64 code] w fun e w' => e = .returned (.string y) ∧ Below w.heap.size w w') := Lib.hid fun w h => by rw [← hy]; exact Itoa_any code w hc h
    have HM := Lib.hid (show M = ⟨#[112, 114, 111, 98, 108, 101, 109, 32]⟩ ++ y by rw [← hM, if_neg h4, if_neg h8, if_neg h9, if_pos (by omega), hy])
    have z1 : ¬ (9223372036854775807 < 8 + y.size) := by omega
    clear hM hy
    go_enter Tryz.func20, Tryz.ntmps20
    go_wp2_with (rw [hW])
    refine wp_region_HO (fun W' => W'.cell? ⟨w.heap.size, 0, none⟩ = some (.int .i64 code)) [] [(0, true), (1, true), (2, true), (3, true), (4, true), (5, true), (6, false), (7, true), (8, true), (9, true), (10, true)] (by kernel_rfl) (by kernel_rfl) rfl (by kernel_rfl) ?_
    have hS0 := x0
    first | (refine wpHO_off rfl (by rfl) hS0 ?_) | (refine wpHO_soft rfl (by rfl) hS0 (by intro w1 hs1; go_simp; rfl) ?_)
    simp only [Act.put, List.setIfInBounds_toArray, List.set_cons_zero, List.set_cons_succ]
    first | (refine wpHO_off rfl (by rfl) hS0 ?_) | (refine wpHO_soft rfl (by rfl) hS0 (by intro w1 hs1; go_simp; rfl) ?_)
    simp only [Act.put, List.setIfInBounds_toArray, List.set_cons_zero, List.set_cons_succ]
    refine wpHO_soft (v := .bool false) rfl (by rfl) hS0 (by intro w1 hs1; go_simp) ?_
    simp only [Act.put, List.setIfInBounds_toArray, List.set_cons_zero, List.set_cons_succ]
    first | (refine wpHO_off rfl (by rfl) hS0 ?_) | (refine wpHO_soft rfl (by rfl) hS0 (by intro w1 hs1; go_simp; rfl) ?_)
    simp only [Act.put, List.setIfInBounds_toArray, List.set_cons_zero, List.set_cons_succ]
    first | (refine wpHO_off rfl (by rfl) hS0 ?_) | (refine wpHO_soft rfl (by rfl) hS0 (by intro w1 hs1; go_simp; rfl) ?_)
    simp only [Act.put, List.setIfInBounds_toArray, List.set_cons_zero, List.set_cons_succ]
    first | (refine wpHO_off rfl (by rfl) hS0 ?_) | (refine wpHO_soft rfl (by rfl) hS0 (by intro w1 hs1; go_simp; rfl) ?_)
    simp only [Act.put, List.setIfInBounds_toArray, List.set_cons_zero, List.set_cons_succ]
    refine wpHO_call rfl (by rfl) (by go_simp) ((messages_any _).mono ?_)
    rintro e w2 ⟨rfl, hw2⟩
    have hb2 : Below W.heap.size W w2 := by rw [hw2]; exact (Below.refl W.heap.size W).drew.trans (show Below W.heap.size W.drew _ from below_alloc W.drew _)
    have HB2 := Lib.hid hb2
    have hS1 := (hb2.cell (p := ⟨w.heap.size, 0, none⟩) hlt).trans x0
    have hlt2 := hb2.size
    clear hb2 hw2
    refine ⟨_, rfl, fun _ => hS1, ?_⟩
    simp only [Act.put, List.setIfInBounds_toArray, List.set_cons_zero, List.set_cons_succ]
    first | (refine wpHO_off rfl (by rfl) hS1 ?_) | (refine wpHO_soft rfl (by rfl) hS1 (by intro w1 hs1; go_simp; rfl) ?_)
    simp only [Act.put, List.setIfInBounds_toArray, List.set_cons_zero, List.set_cons_succ]
    first | (refine wpHO_off rfl (by rfl) hS1 ?_) | (refine wpHO_soft rfl (by rfl) hS1 (by intro w1 hs1; go_simp; rfl) ?_)
    simp only [Act.put, List.setIfInBounds_toArray, List.set_cons_zero, List.set_cons_succ]
    first | (refine wpHO_off rfl (by rfl) hS1 ?_) | (refine wpHO_soft rfl (by rfl) hS1 (by intro w1 hs1; go_simp; rfl) ?_)
    simp only [Act.put, List.setIfInBounds_toArray, List.set_cons_zero, List.set_cons_succ]
    first | (refine wpHO_off rfl (by rfl) hS1 ?_) | (refine wpHO_soft rfl (by rfl) hS1 (by intro w1 hs1; go_simp; rfl) ?_)
    simp only [Act.put, List.setIfInBounds_toArray, List.set_cons_zero, List.set_cons_succ]
    refine wpHO_nil ?_
    go_wp2_with fail
    refine (HI.out _ (HT.out.below HB2.out)).mono ?_
    rintro e w3 ⟨rfl, hb3⟩
    have HB3 := Lib.hid ((HB.out.trans (HB2.out.mono HB.out.size)).trans (hb3.mono (Nat.le_trans HB.out.size HB2.out.size)))
    clear hb3
    go_wp2_with fail
    go_ret
    exact ⟨by rw [HM.out]; rfl, HB3.out⟩
  · obtain ⟨c, rfl⟩ : ∃ c : Nat, code = c := ⟨code.toNat, by omega⟩
    have hc23 : c < 23 := by omega
    obtain ⟨m, hm⟩ : ∃ m, msgL[c]? = some m := ⟨_, List.getElem?_eq_getElem (by show c < 23; exact hc23)⟩
    have hM2 : M = m := by
      rw [← hM, if_neg h4, if_neg h8, if_neg h9, if_neg (by omega), List.getD_eq_getElem?_getD, Int.toNat_natCast, hm]
      rfl
    have HM := Lib.hid hM2
    have HMM := Lib.hid hm
    clear hM hM2 hm
    have n1 : ¬ ((c : Int) < 1) := by omega
    have n23 : ¬ ((23 : Int) ≤ (c : Int)) := by omega
    go_enter Tryz.func20, Tryz.ntmps20
    go_wp2_with (rw [hW])
    refine wp_region_HO (fun W' => W'.cell? ⟨w.heap.size, 0, none⟩ = some (.int .i64 (c : Int))) [] [(0, true), (1, true), (2, true), (3, true), (4, true), (5, true), (6, false), (7, true), (8, true), (9, true), (10, true)] (by kernel_rfl) (by kernel_rfl) rfl (by kernel_rfl) ?_
    have hS0 := x0
    first | (refine wpHO_off rfl (by rfl) hS0 ?_) | (refine wpHO_soft rfl (by rfl) hS0 (by intro w1 hs1; go_simp; rfl) ?_)
    simp only [Act.put, List.setIfInBounds_toArray, List.set_cons_zero, List.set_cons_succ]
    first | (refine wpHO_off rfl (by rfl) hS0 ?_) | (refine wpHO_soft rfl (by rfl) hS0 (by intro w1 hs1; go_simp; rfl) ?_)
    simp only [Act.put, List.setIfInBounds_toArray, List.set_cons_zero, List.set_cons_succ]
    refine wpHO_soft (v := .bool false) rfl (by rfl) hS0 (by intro w1 hs1; go_simp) ?_
    simp only [Act.put, List.setIfInBounds_toArray, List.set_cons_zero, List.set_cons_succ]
    first | (refine wpHO_off rfl (by rfl) hS0 ?_) | (refine wpHO_soft rfl (by rfl) hS0 (by intro w1 hs1; go_simp; rfl) ?_)
    simp only [Act.put, List.setIfInBounds_toArray, List.set_cons_zero, List.set_cons_succ]
    first | (refine wpHO_off rfl (by rfl) hS0 ?_) | (refine wpHO_soft rfl (by rfl) hS0 (by intro w1 hs1; go_simp; rfl) ?_)
    simp only [Act.put, List.setIfInBounds_toArray, List.set_cons_zero, List.set_cons_succ]
    first | (refine wpHO_off rfl (by rfl) hS0 ?_) | (refine wpHO_soft rfl (by rfl) hS0 (by intro w1 hs1; go_simp; rfl) ?_)
    simp only [Act.put, List.setIfInBounds_toArray, List.set_cons_zero, List.set_cons_succ]
    refine wpHO_call rfl (by rfl) (by go_simp) ((messages_any _).mono ?_)
    rintro e w2 ⟨rfl, hw2⟩
    have hb2 : Below W.heap.size W w2 := by rw [hw2]; exact (Below.refl W.heap.size W).drew.trans (show Below W.heap.size W.drew _ from below_alloc W.drew _)
    have HB2 := Lib.hid hb2
    have hS1 := (hb2.cell (p := ⟨w.heap.size, 0, none⟩) hlt).trans x0
    have hlt2 := hb2.size
    clear hb2 hw2
    refine ⟨_, rfl, fun _ => hS1, ?_⟩
    simp only [Act.put, List.setIfInBounds_toArray, List.set_cons_zero, List.set_cons_succ]
    first | (refine wpHO_off rfl (by rfl) hS1 ?_) | (refine wpHO_soft rfl (by rfl) hS1 (by intro w1 hs1; go_simp; rfl) ?_)
    simp only [Act.put, List.setIfInBounds_toArray, List.set_cons_zero, List.set_cons_succ]
    first | (refine wpHO_off rfl (by rfl) hS1 ?_) | (refine wpHO_soft rfl (by rfl) hS1 (by intro w1 hs1; go_simp; rfl) ?_)
    simp only [Act.put, List.setIfInBounds_toArray, List.set_cons_zero, List.set_cons_succ]
    first | (refine wpHO_off rfl (by rfl) hS1 ?_) | (refine wpHO_soft rfl (by rfl) hS1 (by intro w1 hs1; go_simp; rfl) ?_)
    simp only [Act.put, List.setIfInBounds_toArray, List.set_cons_zero, List.set_cons_succ]
    first | (refine wpHO_off rfl (by rfl) hS1 ?_) | (refine wpHO_soft rfl (by rfl) hS1 (by intro w1 hs1; go_simp; rfl) ?_)
    simp only [Act.put, List.setIfInBounds_toArray, List.set_cons_zero, List.set_cons_succ]
    refine wpHO_nil ?_
    go_wp2_with fail
    refine wp_region_HO (fun W' => W'.cell? ⟨w.heap.size, 0, none⟩ = some (.int .i64 (c : Int))) [] [(1, true), (2, true), (0, false), (3, true), (4, false), (5, true)] (by kernel_rfl) (by kernel_rfl) rfl (by kernel_rfl) ?_
    have hS2 := hS1
    first | (refine wpHO_off rfl (by rfl) hS2 ?_) | (refine wpHO_soft rfl (by rfl) hS2 (by intro w1 hs1; go_simp; rfl) ?_)
    simp only [Act.put, List.setIfInBounds_toArray, List.set_cons_zero, List.set_cons_succ]
    first | (refine wpHO_off rfl (by rfl) hS2 ?_) | (refine wpHO_soft rfl (by rfl) hS2 (by intro w1 hs1; go_simp; rfl) ?_)
    simp only [Act.put, List.setIfInBounds_toArray, List.set_cons_zero, List.set_cons_succ]
    refine wpHO_call rfl (by rfl) (by go_simp) ((messages_any _).mono ?_)
    rintro e w3 ⟨rfl, hw3⟩
    have hb3 : Below w2.heap.size w2 w3 := by rw [hw3]; exact (Below.refl w2.heap.size w2).drew.trans (show Below w2.heap.size w2.drew _ from below_alloc w2.drew _)
    have HB3 := Lib.hid ((HB.out.trans (HB2.out.mono HB.out.size)).trans (hb3.mono (Nat.le_trans HB.out.size HB2.out.size)))
    have hS3 := (hb3.cell (p := ⟨w.heap.size, 0, none⟩) (Nat.lt_of_lt_of_le hlt hlt2)).trans hS1
    have hcell : w3.cell? ⟨w2.heap.size, c, none⟩ = some (.string m) := by
      rw [hw3]
      have hblk := Blk.new w2.drew 9 (strV msgL).toArray
      have := hblk.cell c
      rw [show (w2.drew).heap.size = w2.heap.size from rfl] at this
      rw [this]
      have := congrArg (Option.map Value.string) HMM.out
      rw [← List.getElem?_map] at this
      simpa [strV] using this
    clear hb3 hw3
    refine ⟨_, rfl, fun _ => hS3, ?_⟩
    simp only [Act.put, List.setIfInBounds_toArray, List.set_cons_zero, List.set_cons_succ]
    first | (refine wpHO_off rfl (by rfl) hS3 ?_) | (refine wpHO_soft rfl (by rfl) hS3 (by intro w1 hs1; go_simp; rfl) ?_)
    simp only [Act.put, List.setIfInBounds_toArray, List.set_cons_zero, List.set_cons_succ]
    refine wpHO_run (v := .string m) (w' := w3) rfl (by rfl) (by go_simp) (fun _ => hS3) ?_
    simp only [Act.put, List.setIfInBounds_toArray, List.set_cons_zero, List.set_cons_succ]
    first | (refine wpHO_off rfl (by rfl) hS3 ?_) | (refine wpHO_soft rfl (by rfl) hS3 (by intro w1 hs1; go_simp; rfl) ?_)
    simp only [Act.put, List.setIfInBounds_toArray, List.set_cons_zero, List.set_cons_succ]
    refine wpHO_nil ?_
    go_wp2_with fail
    go_ret
    exact ⟨by rw [HM.out]; rfl, HB3.out⟩
end Go.Proofs.YtinpopjnnljkhaaGreatDoor
/- Coverage, walked. -/
namespace Go.Proofs.YtinpopjnnljkhaaGreatDoor
open Go.RowKit

def pairCells (p : Int × Int) : List Value := [.int .i64 p.1, .int .i64 p.2]
def markM (L : List (Int × Int)) (i : Nat) : ByteArray :=
  match L[i]? with
  | none => ⟨#[32, 32]⟩
  | some (r, g) => if g ≤ 0 then ⟨#[32, 32]⟩ else if g ≤ r then ⟨#[43, 32]⟩ else if r ≤ 0 then ⟨#[45, 32]⟩ else ⟨#[126, 32]⟩
def covM (s : ByteArray) (L : List (Int × Int)) (i : Nat) : List ByteArray := (List.range i).map fun j => markM L j ++ lineM s (j + 1)
theorem covM_succ (s : ByteArray) (L : List (Int × Int)) (i : Nat) : covM s L (i + 1) = covM s L i ++ [markM L i ++ lineM s (i + 1)] := by
  unfold covM
  rw [List.range_succ, List.map_append]
  rfl
theorem covM_len (s : ByteArray) (L : List (Int × Int)) (i : Nat) : (covM s L i).length = i := by simp [covM]
theorem lineM_size (s : ByteArray) (k : Nat) : (lineM s k).size ≤ s.size := by
  unfold lineM
  split
  · exact Nat.zero_le _
  · rw [ByteArray.size_extract]; omega
def nlM (s : ByteArray) : Nat := (stN s.data.toList s.size).length

set_option maxHeartbeats 8000000 in
set_option maxRecDepth 100000 in
theorem Coverage_any (s : ByteArray) (A : Option Addr) (N c : Nat) (L : List (Int × Int)) (w : World) (hs : s.size ≤ 1500) (hL : RowAt 2 pairCells w w.heap.size A L) (hl : L.length = N) (hN : N ≤ 200) :
    Calls Tryz.prog 6 #[.string s, .slice A N c] w fun e w' => (∃ v, e = .returned v ∧ OwnS w' w.heap.size 9 1 v (nlM s) (strV (covM s L (nlM s)))) ∧ Below w.heap.size w w' := by
  obtain ⟨i0, hi0, hz0, hz1, hz2⟩ := info_parts str_info
  have HLN := Lib.hid (Lines_any s w (by omega))
  have HLI := Lib.hid (fun (k : Nat) (hk : k ≤ 4097) (w : World) => Line_any s k w (by omega) hk)
  obtain ⟨n, hn⟩ : ∃ n, nlM s = n := ⟨_, rfl⟩
  have hn2 : n ≤ 1501 := by rw [← hn]; have := (stN_len s.data.toList s.size).2; unfold nlM; omega
  have hn1 : 1 ≤ n := by rw [← hn]; have := (stN_len s.data.toList s.size).1; unfold nlM; omega
  rw [show (stN s.data.toList s.size).length = n from hn] at HLN
  rw [hn]
  have HL := Lib.hid hL
  have HLL := Lib.hid hl
  clear hn hL hl
  go_enter Tryz.func6, Tryz.ntmps6
  go_wp2_with fail
  refine HLN.out.mono ?_
  rintro e w2 ⟨⟨v, rfl, ho⟩, hb2⟩
  have HB2 := Lib.hid hb2
  obtain ⟨g, off, cap, rfl, h1, h2, h3, h4, h5⟩ := ho.form (by omega)
  clear ho hb2 h5
  go_wp2_with fail
  go_loopg [5, 13] n (fun gk s5 si wr => ∃ k : Nat, k + gk = n ∧ si = .int .i64 k ∧ Below w.heap.size w wr ∧ OwnS wr w.heap.size 9 1 s5 k (strV (covM s L k)))
  case atStart => exact ⟨0, by omega, rfl, HB2.out, OwnS.nil _ _ _ _⟩
  case round =>
    obtain ⟨k, hk, rfl, hB, ho⟩ := hrel
    have hk' : k ≤ n := by omega
    have HK := Lib.hid hk
    have HBr := Lib.hid hB
    have hbs := hB.size
    obtain ⟨xs, hxs⟩ : ∃ xs, strV (covM s L k) = xs := ⟨_, rfl⟩
    rw [hxs] at ho
    have HXS := Lib.hid hxs
    have HO := Lib.hid ho
    clear hk ho hxs
    by_cases hlt : k < n
    · have hki : (k : Int) < (n : Int) := by omega
      have HCALL := Lib.hid (HLI.out (k + 1) (by omega))
      by_cases hkN : k < N
      · have hkNi : (k : Int) < (N : Int) := by omega
        have e1 : L[k]? = some (L[k]'(by rw [HLL.out]; exact hkN)) := List.getElem?_eq_getElem _
        generalize L[k]'(by rw [HLL.out]; exact hkN) = p at e1
        obtain ⟨r, q⟩ := p
        obtain ⟨b1, o1, hA1, hb1, hc1⟩ := (HL.out.below hB (Nat.le_refl _)) k _ e1
        subst hA1
        have x0 : wr.cell? ⟨b1, o1 + k * 2, none⟩ = some (.int .i64 r) := by simpa using hc1 0 _ rfl
        have x1 : wr.cell? ⟨b1, o1 + k * 2 + 1, none⟩ = some (.int .i64 q) := hc1 1 _ rfl
        have E1 := Lib.hid e1
        clear hc1 e1 hB
        by_cases hq : q ≤ 0
        · have hx1 : (max q 0 == 0) = true := by simp; omega
          have hm : markM L k = ⟨#[32, 32]⟩ := by unfold markM; rw [E1.out]; simp only; rw [if_pos hq]
          have HM := Lib.hid hm
          clear hm
          go_wp2_with fail
          refine (HCALL.out _).mono ?_
          rintro e w3 ⟨rfl, hb3⟩
          have hs3 := hb3.size
          have hls := lineM_size s (k + 1)
          have hcat : ¬ (9223372036854775807 < 2 + (lineM s (k + 1)).size) := by omega
          have HB3 := Lib.hid hb3
          have HO3 := Lib.hid (HO.out.below hb3 (fun g hg => (HO.out.lt g hg).2))
          clear hb3
          go_wp2_with (at_builtin; go_must (refine wpList_append_S _ rfl (.tmp 44) (.tmp 51) _ rfl w.heap.size 9 i0 _ 1 16 Tryz.underlying24 hi0 hz0 hz1 hz2 rfl u5 k xs rfl (HO3.out.alloc _) ⟨w3.heap.size, 0, none⟩ 1 1 [.string (markM L k ++ lineM s (k + 1))] rfl rfl (news_one _ _ _ (by rw [HM.out]; go_simp)) (by simp [Value.oneCell']) (by simp only [maxLen]; omega) (by omega) (by simp; omega) ?_); intro v' w4 hown hgrow hat)
          go_roundg (gk - 1)
          case measure => have := HK.out; omega
          case rel =>
            refine ⟨k + 1, by have := HK.out; omega, by go_num, ?_, ?_⟩
            · exact Below.grown ((HBr.out.trans (HB3.out.mono HBr.out.size)).alloc (Nat.le_trans HBr.out.size HB3.out.size) _) hgrow (by have := HBr.out.size; simp; omega) (fun g hg => (HO3.out.lt g hg).1)
            · rw [covM_succ]
              unfold strV
              rw [List.map_append, show List.map Value.string (covM s L k) = xs from HXS.out]
              exact hown
        · have hx1 : (max q 0 == 0) = false := by simp; omega
          by_cases hr : q ≤ r
          · have hx2 : (min (max r 0) (max q 0) == max q 0) = true := by simp; omega
            have hm : markM L k = ⟨#[43, 32]⟩ := by unfold markM; rw [E1.out]; simp only; rw [if_neg hq, if_pos hr]
            have HM := Lib.hid hm
            clear hm
            go_wp2_with fail
            refine (HCALL.out _).mono ?_
            rintro e w3 ⟨rfl, hb3⟩
            have hs3 := hb3.size
            have hls := lineM_size s (k + 1)
            have hcat : ¬ (9223372036854775807 < 2 + (lineM s (k + 1)).size) := by omega
            have HB3 := Lib.hid hb3
            have HO3 := Lib.hid (HO.out.below hb3 (fun g hg => (HO.out.lt g hg).2))
            clear hb3
            go_wp2_with (at_builtin; go_must (refine wpList_append_S _ rfl (.tmp 44) (.tmp 51) _ rfl w.heap.size 9 i0 _ 1 16 Tryz.underlying24 hi0 hz0 hz1 hz2 rfl u5 k xs rfl (HO3.out.alloc _) ⟨w3.heap.size, 0, none⟩ 1 1 [.string (markM L k ++ lineM s (k + 1))] rfl rfl (news_one _ _ _ (by rw [HM.out]; go_simp)) (by simp [Value.oneCell']) (by simp only [maxLen]; omega) (by omega) (by simp; omega) ?_); intro v' w4 hown hgrow hat)
            go_roundg (gk - 1)
            case measure => have := HK.out; omega
            case rel =>
              refine ⟨k + 1, by have := HK.out; omega, by go_num, ?_, ?_⟩
              · exact Below.grown ((HBr.out.trans (HB3.out.mono HBr.out.size)).alloc (Nat.le_trans HBr.out.size HB3.out.size) _) hgrow (by have := HBr.out.size; simp; omega) (fun g hg => (HO3.out.lt g hg).1)
              · rw [covM_succ]
                unfold strV
                rw [List.map_append, show List.map Value.string (covM s L k) = xs from HXS.out]
                exact hown
          · by_cases hr0 : r ≤ 0
            · have hx2 : (min (max r 0) (max q 0) == max q 0) = false := by simp; omega
              have hx3 : (min (max r 0) (max q 0) == 0) = true := by simp; omega
              have hm : markM L k = ⟨#[45, 32]⟩ := by unfold markM; rw [E1.out]; simp only; rw [if_neg hq, if_neg hr, if_pos hr0]
              have HM := Lib.hid hm
              clear hm
              go_wp2_with fail
              refine (HCALL.out _).mono ?_
              rintro e w3 ⟨rfl, hb3⟩
              have hs3 := hb3.size
              have hls := lineM_size s (k + 1)
              have hcat : ¬ (9223372036854775807 < 2 + (lineM s (k + 1)).size) := by omega
              have HB3 := Lib.hid hb3
              have HO3 := Lib.hid (HO.out.below hb3 (fun g hg => (HO.out.lt g hg).2))
              clear hb3
              go_wp2_with (at_builtin; go_must (refine wpList_append_S _ rfl (.tmp 44) (.tmp 51) _ rfl w.heap.size 9 i0 _ 1 16 Tryz.underlying24 hi0 hz0 hz1 hz2 rfl u5 k xs rfl (HO3.out.alloc _) ⟨w3.heap.size, 0, none⟩ 1 1 [.string (markM L k ++ lineM s (k + 1))] rfl rfl (news_one _ _ _ (by rw [HM.out]; go_simp)) (by simp [Value.oneCell']) (by simp only [maxLen]; omega) (by omega) (by simp; omega) ?_); intro v' w4 hown hgrow hat)
              go_roundg (gk - 1)
              case measure => have := HK.out; omega
              case rel =>
                refine ⟨k + 1, by have := HK.out; omega, by go_num, ?_, ?_⟩
                · exact Below.grown ((HBr.out.trans (HB3.out.mono HBr.out.size)).alloc (Nat.le_trans HBr.out.size HB3.out.size) _) hgrow (by have := HBr.out.size; simp; omega) (fun g hg => (HO3.out.lt g hg).1)
                · rw [covM_succ]
                  unfold strV
                  rw [List.map_append, show List.map Value.string (covM s L k) = xs from HXS.out]
                  exact hown
            · have hx2 : (min (max r 0) (max q 0) == max q 0) = false := by simp; omega
              have hx3 : (min (max r 0) (max q 0) == 0) = false := by simp; omega
              have hm : markM L k = ⟨#[126, 32]⟩ := by unfold markM; rw [E1.out]; simp only; rw [if_neg hq, if_neg hr, if_neg hr0]
              have HM := Lib.hid hm
              clear hm
              go_wp2_with fail
              refine (HCALL.out _).mono ?_
              rintro e w3 ⟨rfl, hb3⟩
              have hs3 := hb3.size
              have hls := lineM_size s (k + 1)
              have hcat : ¬ (9223372036854775807 < 2 + (lineM s (k + 1)).size) := by omega
              have HB3 := Lib.hid hb3
              have HO3 := Lib.hid (HO.out.below hb3 (fun g hg => (HO.out.lt g hg).2))
              clear hb3
              go_wp2_with (at_builtin; go_must (refine wpList_append_S _ rfl (.tmp 44) (.tmp 51) _ rfl w.heap.size 9 i0 _ 1 16 Tryz.underlying24 hi0 hz0 hz1 hz2 rfl u5 k xs rfl (HO3.out.alloc _) ⟨w3.heap.size, 0, none⟩ 1 1 [.string (markM L k ++ lineM s (k + 1))] rfl rfl (news_one _ _ _ (by rw [HM.out]; go_simp)) (by simp [Value.oneCell']) (by simp only [maxLen]; omega) (by omega) (by simp; omega) ?_); intro v' w4 hown hgrow hat)
              go_roundg (gk - 1)
              case measure => have := HK.out; omega
              case rel =>
                refine ⟨k + 1, by have := HK.out; omega, by go_num, ?_, ?_⟩
                · exact Below.grown ((HBr.out.trans (HB3.out.mono HBr.out.size)).alloc (Nat.le_trans HBr.out.size HB3.out.size) _) hgrow (by have := HBr.out.size; simp; omega) (fun g hg => (HO3.out.lt g hg).1)
                · rw [covM_succ]
                  unfold strV
                  rw [List.map_append, show List.map Value.string (covM s L k) = xs from HXS.out]
                  exact hown
      · have hkNi : ¬ (k : Int) < (N : Int) := by omega
        have hm : markM L k = ⟨#[32, 32]⟩ := by unfold markM; rw [List.getElem?_eq_none (by rw [HLL.out]; omega)]
        have HM := Lib.hid hm
        clear hm hB
        go_wp2_with fail
        refine (HCALL.out _).mono ?_
        rintro e w3 ⟨rfl, hb3⟩
        have hs3 := hb3.size
        have hls := lineM_size s (k + 1)
        have hcat : ¬ (9223372036854775807 < 2 + (lineM s (k + 1)).size) := by omega
        have HB3 := Lib.hid hb3
        have HO3 := Lib.hid (HO.out.below hb3 (fun g hg => (HO.out.lt g hg).2))
        clear hb3
        go_wp2_with (at_builtin; go_must (refine wpList_append_S _ rfl (.tmp 44) (.tmp 51) _ rfl w.heap.size 9 i0 _ 1 16 Tryz.underlying24 hi0 hz0 hz1 hz2 rfl u5 k xs rfl (HO3.out.alloc _) ⟨w3.heap.size, 0, none⟩ 1 1 [.string (markM L k ++ lineM s (k + 1))] rfl rfl (news_one _ _ _ (by rw [HM.out]; go_simp)) (by simp [Value.oneCell']) (by simp only [maxLen]; omega) (by omega) (by simp; omega) ?_); intro v' w4 hown hgrow hat)
        go_roundg (gk - 1)
        case measure => have := HK.out; omega
        case rel =>
          refine ⟨k + 1, by have := HK.out; omega, by go_num, ?_, ?_⟩
          · exact Below.grown ((HBr.out.trans (HB3.out.mono HBr.out.size)).alloc (Nat.le_trans HBr.out.size HB3.out.size) _) hgrow (by have := HBr.out.size; simp; omega) (fun g hg => (HO3.out.lt g hg).1)
          · rw [covM_succ]
            unfold strV
            rw [List.map_append, show List.map Value.string (covM s L k) = xs from HXS.out]
            exact hown
    · have hkn : k = n := by omega
      subst hkn
      go_wp2_with fail
      go_ret
      exact ⟨⟨_, rfl, by rw [HXS.out]; exact HO.out⟩, HBr.out⟩
end Go.Proofs.YtinpopjnnljkhaaGreatDoor
/- A diagnostic's lines: plain; in memory. -/
namespace Go.Proofs.YtinpopjnnljkhaaGreatDoor
open Go.RowKit

def stCells (x : Dstp) : List Value := [.int .i64 x.kind, .int .i64 x.at_, .int .i64 x.fin, .string x.text]
/-- So many bytes. -/
def repB (c : UInt8) (k : Int) : ByteArray := ⟨(Lib.repeatL [c] k.toNat).toArray⟩
theorem repB_size (c : UInt8) (k : Int) : (repB c k).size = k.toNat := by
  have : (repB c k).size = (Lib.repeatL [c] k.toNat).length := by simp [repB, ByteArray.size]
  rw [this, Lib.repeatL_length]
  simp
theorem Repeat_any (c : UInt8) (k : Int) (h0 : 0 ≤ k) (h1 : k ≤ 10000) (w : World) : Calls Tryz.prog 31 #[.string ⟨#[c]⟩, .int .i64 k] w fun e w' => e = .returned (.string (repB c k)) ∧ Below w.heap.size w w' := by
  obtain ⟨n, rfl⟩ : ∃ n : Nat, k = n := ⟨k.toNat, by omega⟩
  have := Tryz.strings_Repeat ⟨#[c]⟩ n w (by omega) (by show 1 * n ≤ _; omega)
  exact this
def marksM (s : ByteArray) (d : Dg) : Int :=
  if 0 < (posL s d.at_).1 ∧ d.at_ < d.fin then max 1 (min (min d.fin (d.at_ + (lineM s (posL s d.at_).1.toNat).size) - d.at_) ((lineM s (posL s d.at_).1.toNat).size - (posL s d.at_).2 + 1)) else 1
def stepW (x : Dstp) : ByteArray := if x.kind = 0 then ⟨#[116, 104, 105, 115, 32, 105, 115, 32]⟩ ++ x.text else ⟨#[116, 104, 101, 115, 101, 32, 104, 97, 118, 101, 32, 116, 104, 101, 32, 115, 97, 109, 101, 32, 116, 121, 112, 101]⟩
def stepS (s : ByteArray) (x : Dstp) : ByteArray := ⟨#[45, 32]⟩ ++ posS s x.at_ ++ stepW x
/-- The lines of a diagnostic. -/
def diagM (s : ByteArray) (d : Dg) : List ByteArray :=
  [posS s d.at_ ++ msgM d, lineM s (posL s d.at_).1.toNat, repB 32 (max ((posL s d.at_).2 - 1) 0) ++ repB 94 (marksM s d)] ++ d.chain.map (stepS s)
def fewD (d : Dg) : Prop := d.text.size ≤ 100 ∧ d.chain.length ≤ 20 ∧ ∀ x ∈ d.chain, x.text.size ≤ 100
theorem stepW_size {x : Dstp} (h : x.text.size ≤ 100) : (stepW x).size ≤ 200 := by
  unfold stepW
  split
  · rw [ByteArray.size_append]
    have : (⟨#[116, 104, 105, 115, 32, 105, 115, 32]⟩ : ByteArray).size = 8 := rfl
    omega
  · have : (⟨#[116, 104, 101, 115, 101, 32, 104, 97, 118, 101, 32, 116, 104, 101, 32, 115, 97, 109, 101, 32, 116, 121, 112, 101]⟩ : ByteArray).size = 24 := rfl
    omega
end Go.Proofs.YtinpopjnnljkhaaGreatDoor
/- Few diagnostics, walked. -/
namespace Go.Proofs.YtinpopjnnljkhaaGreatDoor
open Go.RowKit

/-- A diagnostic in a row: what it is, its chain's slice, where it stood at first. -/
structure Rd where
  dg : Dg
  A : Option Addr
  n : Nat
  c : Nat
  tag : Nat
def rdCells (x : Rd) : List Value := [.int .i64 x.dg.code, .int .i64 x.dg.at_, .int .i64 x.dg.fin, .string x.dg.text, .slice x.A x.n x.c]
def ChAt (w : World) (B : Nat) (x : Rd) : Prop := x.dg.chain.length = x.n ∧ RowAt 4 stCells w B x.A x.dg.chain
theorem ChAt.below {w w' : World} {B B' : Nat} {x : Rd} (h : ChAt w B x) (hb : Below B' w w') (hB : B ≤ B') : ChAt w' B x := ⟨h.1, h.2.below hb hB⟩

set_option maxHeartbeats 8000000 in
set_option maxRecDepth 100000 in
theorem few_any (A : Option Addr) (n c : Nat) (xs : List Rd) (w : World) (hx : RowAt 5 rdCells w w.heap.size A xs) (hc : ∀ x ∈ xs, ChAt w w.heap.size x) (hl : xs.length = n) (hn : n ≤ maxLen) (hcn : ∀ x ∈ xs, x.n ≤ maxLen) (hcs : ∀ x ∈ xs, x.dg.text.size ≤ maxLen ∧ ∀ y ∈ x.dg.chain, y.text.size ≤ maxLen) :
    Calls Tryz.prog 10 #[.slice A n c] w fun e w' => (∃ b, e = .returned (.bool b) ∧ (b = true → n ≤ 20 ∧ ∀ x ∈ xs, fewD x.dg)) ∧ Below w.heap.size w w' := by
  unfold maxLen at hn hcn hcs
  have HX := Lib.hid hx
  have HC := Lib.hid hc
  have HL := Lib.hid hl
  have HCN := Lib.hid hcn
  have HCS := Lib.hid hcs
  clear hx hc hl hcn hcs
  go_enter Tryz.func10, Tryz.ntmps10
  go_wp2_with fail
  go_loopg [9] n (fun gk s9 wr => ∃ k : Nat, k + gk = n ∧ s9 = .int .i64 k ∧ Below w.heap.size w wr ∧ Hid (∀ x ∈ xs.take k, fewD x.dg))
  case atStart => exact ⟨0, by omega, rfl, Below.refl _ _, Lib.hid (by simp)⟩
  case round =>
    obtain ⟨k, hk, rfl, hB, HF⟩ := hrel
    have hk' : k ≤ n := by omega
    have HK := Lib.hid hk
    have HBr := Lib.hid hB
    have hbs := hB.size
    clear hk
    by_cases hlt : k < n
    · have hki : (k : Int) < (n : Int) := by omega
      have e1 : xs[k]? = some (xs[k]'(by rw [HL.out]; exact hlt)) := List.getElem?_eq_getElem _
      generalize xs[k]'(by rw [HL.out]; exact hlt) = x at e1
      have hmem := List.mem_of_getElem? e1
      obtain ⟨b1, o1, hA1, hb1, hc1⟩ := (HX.out.below hB (Nat.le_refl _)) k _ e1
      subst hA1
      have hch := HC.out x hmem
      have HCH := Lib.hid hch
      have hxn := HCN.out x hmem
      have hxs := HCS.out x hmem
      have E1 := Lib.hid e1
      obtain ⟨⟨code, at_, fin, text, chain⟩, A2, m, c2, tg⟩ := x
      simp only at hxn hxs
      have hxt := hxs.1
      have HXC := Lib.hid hxs.2
      have y0 : wr.cell? ⟨b1, o1 + k * 5, none⟩ = some (.int .i64 code) := by simpa using hc1 0 _ rfl
      have y1 : wr.cell? ⟨b1, o1 + k * 5 + 1, none⟩ = some (.int .i64 at_) := hc1 1 _ rfl
      have y2 : wr.cell? ⟨b1, o1 + k * 5 + 2, none⟩ = some (.int .i64 fin) := hc1 2 _ rfl
      have y3 : wr.cell? ⟨b1, o1 + k * 5 + 3, none⟩ = some (.string text) := hc1 3 _ rfl
      have y4 : wr.cell? ⟨b1, o1 + k * 5 + 4, none⟩ = some (.slice A2 m c2) := hc1 4 _ rfl
      obtain ⟨W3, hW3⟩ : ∃ W3, wr.alloc (.cells #[.int .i64 code, .int .i64 at_, .int .i64 fin, .string text, .slice A2 m c2] 35) = W3 := ⟨_, rfl⟩
      have h3b : Below wr.heap.size wr W3 := by rw [← hW3]; exact below_alloc _ _
      have h3x : Blk W3 wr.heap.size 35 #[.int .i64 code, .int .i64 at_, .int .i64 fin, .string text, .slice A2 m c2] := by rw [← hW3]; exact Blk.new wr _ _
      have z3 : W3.cell? ⟨wr.heap.size, 3, none⟩ = some (.string text) := h3x.cell 3
      have z4 : W3.cell? ⟨wr.heap.size, 4, none⟩ = some (.slice A2 m c2) := h3x.cell 4
      have HB3 := Lib.hid (HBr.out.trans (h3b.mono HBr.out.size))
      clear h3b h3x hc1 e1 hB hmem hch hxs
      by_cases ht : text.size ≤ 100
      · have hti : ¬ (100 : Int) < (text.size : Int) := by omega
        have hti2 : (decide ((100 : Int) < (text.size : Int))) = false := by simp; omega
        by_cases hm : m ≤ 20
        · have hmi : ¬ (20 : Int) < (m : Int) := by omega
          go_wp2_with (rw [hW3])
          obtain ⟨wo, hwo⟩ : ∃ wo : World, wo = wr := ⟨_, rfl⟩
          obtain ⟨gko, hgko⟩ : ∃ g : Nat, g = gk := ⟨_, rfl⟩
          subst hwo hgko
          go_loopg [26] m (fun gk s26 wr => ∃ j : Nat, j + gk = m ∧ s26 = .int .i64 j ∧ Below W3.heap.size W3 wr ∧ Hid (∀ y ∈ chain.take j, y.text.size ≤ 100))
          case atStart => exact ⟨0, by omega, rfl, Below.refl _ _, Lib.hid (by simp)⟩
          case round =>
            obtain ⟨j, hj, rfl, hB2, HG⟩ := hrel
            have hj' : j ≤ m := by omega
            have HJ := Lib.hid hj
            have HB2r := Lib.hid hB2
            have hbs2 := hB2.size
            clear hj
            by_cases hlj : j < m
            · have hji : (j : Int) < (m : Int) := by omega
              have e2 : chain[j]? = some (chain[j]'(by rw [HCH.out.1]; exact hlj)) := List.getElem?_eq_getElem _
              generalize chain[j]'(by rw [HCH.out.1]; exact hlj) = y at e2
              obtain ⟨b2, o2, hA2, hb2, hc2⟩ := (HCH.out.2.below (HB3.out.trans (hB2.mono HB3.out.size)) (Nat.le_refl _)) j _ e2
              simp only at hA2
              subst hA2
              have hyt := HXC.out y (List.mem_of_getElem? e2)
              have E2 := Lib.hid e2
              obtain ⟨kd, ya, yf, yt⟩ := y
              simp only at hyt
              have x0 : wr.cell? ⟨b2, o2 + j * 4, none⟩ = some (.int .i64 kd) := by simpa using hc2 0 _ rfl
              have x1 : wr.cell? ⟨b2, o2 + j * 4 + 1, none⟩ = some (.int .i64 ya) := hc2 1 _ rfl
              have x2 : wr.cell? ⟨b2, o2 + j * 4 + 2, none⟩ = some (.int .i64 yf) := hc2 2 _ rfl
              have x3 : wr.cell? ⟨b2, o2 + j * 4 + 3, none⟩ = some (.string yt) := hc2 3 _ rfl
              obtain ⟨W4, hW4⟩ : ∃ W4, wr.alloc (.cells #[.int .i64 kd, .int .i64 ya, .int .i64 yf, .string yt] 83) = W4 := ⟨_, rfl⟩
              have h4b : Below wr.heap.size wr W4 := by rw [← hW4]; exact below_alloc _ _
              have h4x : Blk W4 wr.heap.size 83 #[.int .i64 kd, .int .i64 ya, .int .i64 yf, .string yt] := by rw [← hW4]; exact Blk.new wr _ _
              have z43 : W4.cell? ⟨wr.heap.size, 3, none⟩ = some (.string yt) := h4x.cell 3
              have HB4 := Lib.hid (HB2r.out.trans (h4b.mono HB2r.out.size))
              clear h4b h4x hc2 e2 hB2
              by_cases hy : yt.size ≤ 100
              · have hyi : ¬ (100 : Int) < (yt.size : Int) := by omega
                go_wp2_with (rw [hW4])
                go_roundg (gk - 1)
                case measure => have := HJ.out; omega
                case rel =>
                  refine ⟨j + 1, by have := HJ.out; omega, by go_num, HB4.out, Lib.hid ?_⟩
                  rw [List.take_add_one, E2.out]
                  intro z hz
                  rcases List.mem_append.1 hz with hz | hz
                  · exact HG.out z hz
                  · have : z = ⟨kd, ya, yf, yt⟩ := by simpa using hz
                    rw [this]; exact hy
              · have hyi : (100 : Int) < (yt.size : Int) := by omega
                go_wp2_with (rw [hW4])
                go_ret
                first | exact ⟨rfl, HB3.out.trans (HB4.out.mono HB3.out.size)⟩ | exact ⟨.inl rfl, HB3.out.trans (HB4.out.mono HB3.out.size)⟩ | exact ⟨⟨false, rfl, by simp⟩, HB3.out.trans (HB4.out.mono HB3.out.size)⟩
            · have hjm : j = m := by omega
              subst hjm
              go_wp2_with fail
              go_roundg (gko - 1)
              case measure => have := HK.out; omega
              case rel =>
                refine ⟨k + 1, by have := HK.out; omega, by go_num, HB3.out.trans (HB2r.out.mono HB3.out.size), Lib.hid ?_⟩
                rw [List.take_add_one, E1.out]
                intro z hz
                rcases List.mem_append.1 hz with hz | hz
                · exact HF.out z hz
                · have hz : z = ⟨⟨code, at_, fin, text, chain⟩, A2, j, c2, tg⟩ := by simpa using hz
                  rw [hz]
                  refine ⟨ht, by have := HCH.out.1; simp only at this ⊢; omega, ?_⟩
                  have h9 := HG.out
                  have h8 : chain.length = j := HCH.out.1
                  rw [← h8, List.take_length] at h9
                  exact h9
        · have hmi : (20 : Int) < (m : Int) := by omega
          go_wp2_with (rw [hW3])
          go_ret
          first | exact ⟨rfl, HB3.out⟩ | exact ⟨.inl rfl, HB3.out⟩ | exact ⟨⟨false, rfl, by simp⟩, HB3.out⟩
      · have hti : (100 : Int) < (text.size : Int) := by omega
        have hti2 : (decide ((100 : Int) < (text.size : Int))) = true := by simp; omega
        go_wp2_with (rw [hW3])
        go_ret
        first | exact ⟨rfl, HB3.out⟩ | exact ⟨.inl rfl, HB3.out⟩ | exact ⟨⟨false, rfl, by simp⟩, HB3.out⟩
    · have hkn : k = n := by omega
      subst hkn
      by_cases hn20 : k ≤ 20
      · have hni : (k : Int) ≤ 20 := by omega
        go_wp2_with fail
        go_ret
        refine ⟨⟨true, ?_, fun _ => ⟨hn20, ?_⟩⟩, HBr.out⟩
        · rfl
        have := HF.out
        rw [← HL.out, List.take_length] at this
        exact this
      · have hni : ¬ (k : Int) ≤ 20 := by omega
        go_wp2_with fail
        go_ret
        first | exact ⟨rfl, HBr.out⟩ | exact ⟨.inl rfl, HBr.out⟩ | exact ⟨⟨false, rfl, by simp⟩, HBr.out⟩
end Go.Proofs.YtinpopjnnljkhaaGreatDoor
/- The comparison of two diagnostics, walked. -/
namespace Go.Proofs.YtinpopjnnljkhaaGreatDoor
open Go.RowKit

theorem grow_one (w : World) (a : Obj) : w.alloc a = Go.Sort.grow w #[a] := Go.Sort.alloc_eq_grow w a
theorem grow_two (w : World) (a b : Obj) : (w.alloc a).alloc b = Go.Sort.grow w #[a, b] := by rw [grow_one, grow_one, Go.Sort.grow_grow]; rfl
def or3 (a b c : Int) : Int := if a ≠ 0 then a else if b ≠ 0 then b else c
def cfD (x y : Rd) : Int := or3 (Lib.compareInt x.dg.at_ y.dg.at_) (Lib.compareInt x.dg.fin y.dg.fin) (Lib.compareInt x.dg.code y.dg.code)
set_option maxHeartbeats 4000000 in
set_option maxRecDepth 100000 in
theorem Or_any (g : Nat) (a b c : Int) (w : World) (h0 : w.cell? ⟨g, 0, none⟩ = some (.int .i64 a)) (h1 : w.cell? ⟨g, 1, none⟩ = some (.int .i64 b)) (h2 : w.cell? ⟨g, 2, none⟩ = some (.int .i64 c)) :
    Calls Tryz.prog 27 #[.slice (some ⟨g, 0, none⟩) 3 3] w fun e w' => e = .returned (.int .i64 (or3 a b c)) ∧ w' = w := by
  have hv : ∃ v : Nat → Int, v 0 = a ∧ v 1 = b ∧ v 2 = c := ⟨fun i => if i = 0 then a else if i = 1 then b else c, rfl, rfl, rfl⟩
  obtain ⟨v, v0, v1, v2⟩ := hv
  have HC : Hid (∀ k, k < 3 → w.cell? ⟨g, k, none⟩ = some (.int .i64 (v k))) := Lib.hid (fun k hk => by
    match k, hk with
    | 0, _ => rw [v0]; exact h0
    | 1, _ => rw [v1]; exact h1
    | 2, _ => rw [v2]; exact h2)
  have HR : Hid (or3 (v 0) (v 1) (v 2) = or3 a b c) := Lib.hid (by rw [v0, v1, v2])
  clear h0 h1 h2 v0 v1 v2
  go_enter Tryz.func27, Tryz.ntmps27
  go_wp2_with fail
  go_loopg [8] 3 (fun gk s8 wr => ∃ k : Nat, k + gk = 3 ∧ s8 = .int .i64 k ∧ wr = w ∧ Hid (∀ j, j < k → v j = 0))
  case atStart => exact ⟨0, by omega, rfl, rfl, Lib.hid (by omega)⟩
  case round =>
    obtain ⟨k, hk, rfl, rfl, HZ⟩ := hrel
    have hk' : k ≤ 3 := by omega
    have HK := Lib.hid hk
    clear hk
    by_cases hlt : k < 3
    · have hki : (k : Int) < 3 := by omega
      have hc := HC.out k hlt
      obtain ⟨x, hx⟩ : ∃ x, v k = x := ⟨_, rfl⟩
      rw [hx] at hc
      have HXK := Lib.hid hx
      clear hx
      by_cases h0 : x = 0
      · subst h0
        go_wp2_with fail
        go_roundg (gk - 1)
        case measure => have := HK.out; omega
        case rel =>
          refine ⟨k + 1, by have := HK.out; omega, by go_num, rfl, Lib.hid ?_⟩
          intro j hj
          by_cases hjk : j = k
          · subst hjk; exact HXK.out
          · exact HZ.out j (by omega)
      · have hb0 : (x == 0) = false := by simp [h0]
        go_wp2_with fail
        go_ret
        refine ⟨?_, rfl⟩
        rw [← HR.out]
        have hz := HZ.out
        have hxk := HXK.out
        refine ret_int ?_
        unfold or3
        match k, hlt, hz, hxk with
        | 0, _, hz, hxk => rw [hxk, if_pos h0]
        | 1, _, hz, hxk => rw [hz 0 (by omega), hxk]; simp [h0]
        | 2, _, hz, hxk => rw [hz 0 (by omega), hz 1 (by omega), hxk]; simp
    · have hkn : k = 3 := by omega
      subst hkn
      go_wp2_with fail
      go_ret
      refine ⟨?_, rfl⟩
      rw [← HR.out]
      have hz := HZ.out
      refine ret_int ?_
      unfold or3
      rw [hz 0 (by omega), hz 1 (by omega), hz 2 (by omega)]
      simp

set_option maxHeartbeats 8000000 in
set_option maxRecDepth 100000 in
theorem cmpD_any (x y : Rd) (w : World) :
    Calls Tryz.prog 26 #[.agg (rdCells x).toArray, .agg (rdCells y).toArray] w fun e w' => e = .returned (.int .i64 (cfD x y)) ∧ ∃ q os, w' = Go.Sort.grow (w.drewN q) os := by
  have HCF : Hid (cfD x y = or3 (Lib.compareInt x.dg.at_ y.dg.at_) (Lib.compareInt x.dg.fin y.dg.fin) (Lib.compareInt x.dg.code y.dg.code)) := Lib.hid rfl
  obtain ⟨W, hW⟩ : ∃ W, (w.alloc (.cells (rdCells x).toArray 35)).alloc (.cells (rdCells y).toArray 35) = W := ⟨_, rfl⟩
  have hx : Blk W w.heap.size 35 (rdCells x).toArray := by rw [← hW]; exact (Blk.new w _ _).alloc _
  have hy : Blk W (w.heap.size + 1) 35 (rdCells y).toArray := by rw [← hW]; have := Blk.new (w.alloc (.cells (rdCells x).toArray 35)) 35 (rdCells y).toArray; simpa using this
  have HGR : Hid (W = Go.Sort.grow w #[.cells (rdCells x).toArray 35, .cells (rdCells y).toArray 35]) := Lib.hid (by rw [← hW]; exact grow_two w _ _)
  obtain ⟨B, hB⟩ : ∃ B, w.heap.size = B := ⟨_, rfl⟩
  have HBS := Lib.hid hB
  rw [hB] at hx hy
  have HX := Lib.hid hx
  have HY := Lib.hid hy
  have hBl := hx.lt
  have hCl := hy.lt
  have HKS : Hid (∀ w' : World, Below W.heap.size W w' → (fun W' => W'.cell? ⟨B, 0, none⟩ = some (.int .i64 x.dg.code) ∧ W'.cell? ⟨B, 1, none⟩ = some (.int .i64 x.dg.at_) ∧ W'.cell? ⟨B, 2, none⟩ = some (.int .i64 x.dg.fin) ∧ W'.cell? ⟨B + 1, 0, none⟩ = some (.int .i64 y.dg.code) ∧ W'.cell? ⟨B + 1, 1, none⟩ = some (.int .i64 y.dg.at_) ∧ W'.cell? ⟨B + 1, 2, none⟩ = some (.int .i64 y.dg.fin)) w') := Lib.hid (fun w' hb => by have h := HX.out.below hb hBl; have h' := HY.out.below hb hCl; exact ⟨h.cell 0, h.cell 1, h.cell 2, h'.cell 0, h'.cell 1, h'.cell 2⟩)
  have HA := Lib.hid (fun w => Tryz.cmp_Compare_int x.dg.at_ y.dg.at_ w)
  have HF := Lib.hid (fun w => Tryz.cmp_Compare_int x.dg.fin y.dg.fin w)
  have HD := Lib.hid (fun w => Tryz.cmp_Compare_int x.dg.code y.dg.code w)
  obtain ⟨r1, hr1⟩ : ∃ r, Lib.compareInt x.dg.at_ y.dg.at_ = r := ⟨_, rfl⟩
  obtain ⟨r2, hr2⟩ : ∃ r, Lib.compareInt x.dg.fin y.dg.fin = r := ⟨_, rfl⟩
  obtain ⟨r3, hr3⟩ : ∃ r, Lib.compareInt x.dg.code y.dg.code = r := ⟨_, rfl⟩
  rw [hr1] at HA HCF
  rw [hr2] at HF HCF
  rw [hr3] at HD HCF
  clear hr1 hr2 hr3 hx hy
  unfold rdCells at hW ⊢
  go_enter Tryz.func26, Tryz.ntmps26
  go_wp2_with (rw [hW])
  refine wp_region_HO (fun W' => W'.cell? ⟨B, 0, none⟩ = some (.int .i64 x.dg.code) ∧ W'.cell? ⟨B, 1, none⟩ = some (.int .i64 x.dg.at_) ∧ W'.cell? ⟨B, 2, none⟩ = some (.int .i64 x.dg.fin) ∧ W'.cell? ⟨B + 1, 0, none⟩ = some (.int .i64 y.dg.code) ∧ W'.cell? ⟨B + 1, 1, none⟩ = some (.int .i64 y.dg.at_) ∧ W'.cell? ⟨B + 1, 2, none⟩ = some (.int .i64 y.dg.fin)) [] [(0, true), (1, true), (2, true), (3, true), (5, true), (6, true), (7, true), (8, true), (10, true), (11, true), (12, true), (13, true), (4, false), (9, false), (14, false), (15, false), (16, false), (17, true)] (by kernel_rfl) (by kernel_rfl) rfl (by kernel_rfl) ?_
  have hS0 := HKS.out _ (Below.refl _ W).drew
  first | (refine wpHO_off rfl (by rfl) hS0 ?_) | (refine wpHO_soft rfl (by rfl) hS0 (by intro w1 hs1; obtain ⟨q0, q1, q2, q3, q4, q5⟩ := hs1; go_simp; rfl) ?_)
  simp only [Act.put, List.setIfInBounds_toArray, List.set_cons_zero, List.set_cons_succ]
  first | (refine wpHO_off rfl (by rfl) hS0 ?_) | (refine wpHO_soft rfl (by rfl) hS0 (by intro w1 hs1; obtain ⟨q0, q1, q2, q3, q4, q5⟩ := hs1; go_simp; rfl) ?_)
  simp only [Act.put, List.setIfInBounds_toArray, List.set_cons_zero, List.set_cons_succ]
  first | (refine wpHO_off rfl (by rfl) hS0 ?_) | (refine wpHO_soft rfl (by rfl) hS0 (by intro w1 hs1; obtain ⟨q0, q1, q2, q3, q4, q5⟩ := hs1; go_simp; rfl) ?_)
  simp only [Act.put, List.setIfInBounds_toArray, List.set_cons_zero, List.set_cons_succ]
  first | (refine wpHO_off rfl (by rfl) hS0 ?_) | (refine wpHO_soft rfl (by rfl) hS0 (by intro w1 hs1; obtain ⟨q0, q1, q2, q3, q4, q5⟩ := hs1; go_simp; rfl) ?_)
  simp only [Act.put, List.setIfInBounds_toArray, List.set_cons_zero, List.set_cons_succ]
  first | (refine wpHO_off rfl (by rfl) hS0 ?_) | (refine wpHO_soft rfl (by rfl) hS0 (by intro w1 hs1; obtain ⟨q0, q1, q2, q3, q4, q5⟩ := hs1; go_simp; rfl) ?_)
  simp only [Act.put, List.setIfInBounds_toArray, List.set_cons_zero, List.set_cons_succ]
  first | (refine wpHO_off rfl (by rfl) hS0 ?_) | (refine wpHO_soft rfl (by rfl) hS0 (by intro w1 hs1; obtain ⟨q0, q1, q2, q3, q4, q5⟩ := hs1; go_simp; rfl) ?_)
  simp only [Act.put, List.setIfInBounds_toArray, List.set_cons_zero, List.set_cons_succ]
  first | (refine wpHO_off rfl (by rfl) hS0 ?_) | (refine wpHO_soft rfl (by rfl) hS0 (by intro w1 hs1; obtain ⟨q0, q1, q2, q3, q4, q5⟩ := hs1; go_simp; rfl) ?_)
  simp only [Act.put, List.setIfInBounds_toArray, List.set_cons_zero, List.set_cons_succ]
  first | (refine wpHO_off rfl (by rfl) hS0 ?_) | (refine wpHO_soft rfl (by rfl) hS0 (by intro w1 hs1; obtain ⟨q0, q1, q2, q3, q4, q5⟩ := hs1; go_simp; rfl) ?_)
  simp only [Act.put, List.setIfInBounds_toArray, List.set_cons_zero, List.set_cons_succ]
  first | (refine wpHO_off rfl (by rfl) hS0 ?_) | (refine wpHO_soft rfl (by rfl) hS0 (by intro w1 hs1; obtain ⟨q0, q1, q2, q3, q4, q5⟩ := hs1; go_simp; rfl) ?_)
  simp only [Act.put, List.setIfInBounds_toArray, List.set_cons_zero, List.set_cons_succ]
  first | (refine wpHO_off rfl (by rfl) hS0 ?_) | (refine wpHO_soft rfl (by rfl) hS0 (by intro w1 hs1; obtain ⟨q0, q1, q2, q3, q4, q5⟩ := hs1; go_simp; rfl) ?_)
  simp only [Act.put, List.setIfInBounds_toArray, List.set_cons_zero, List.set_cons_succ]
  first | (refine wpHO_off rfl (by rfl) hS0 ?_) | (refine wpHO_soft rfl (by rfl) hS0 (by intro w1 hs1; obtain ⟨q0, q1, q2, q3, q4, q5⟩ := hs1; go_simp; rfl) ?_)
  simp only [Act.put, List.setIfInBounds_toArray, List.set_cons_zero, List.set_cons_succ]
  first | (refine wpHO_off rfl (by rfl) hS0 ?_) | (refine wpHO_soft rfl (by rfl) hS0 (by intro w1 hs1; obtain ⟨q0, q1, q2, q3, q4, q5⟩ := hs1; go_simp; rfl) ?_)
  simp only [Act.put, List.setIfInBounds_toArray, List.set_cons_zero, List.set_cons_succ]
  refine wpHO_call rfl (by rfl) (by go_simp) ((HA.out _).mono ?_)
  rintro e w3 ⟨rfl, rfl⟩
  refine ⟨_, rfl, fun _ => hS0, ?_⟩
  simp only [Act.put, List.setIfInBounds_toArray, List.set_cons_zero, List.set_cons_succ]
  refine wpHO_call rfl (by rfl) (by go_simp) ((HF.out _).mono ?_)
  rintro e w3 ⟨rfl, rfl⟩
  refine ⟨_, rfl, fun _ => hS0, ?_⟩
  simp only [Act.put, List.setIfInBounds_toArray, List.set_cons_zero, List.set_cons_succ]
  refine wpHO_call rfl (by rfl) (by go_simp) ((HD.out _).mono ?_)
  rintro e w3 ⟨rfl, rfl⟩
  refine ⟨_, rfl, fun _ => hS0, ?_⟩
  simp only [Act.put, List.setIfInBounds_toArray, List.set_cons_zero, List.set_cons_succ]
  obtain ⟨w7, hw7⟩ : ∃ w7, W.drew.alloc (.cells #[.int .i64 r1, .int .i64 r2, .int .i64 r3] 3) = w7 := ⟨_, rfl⟩
  have hS7 := HKS.out w7 (by rw [← hw7]; exact ((Below.refl _ W).drew).alloc (Nat.le_refl _) _)
  have hb7 : Blk w7 W.heap.size 3 #[.int .i64 r1, .int .i64 r2, .int .i64 r3] := by rw [← hw7]; exact Blk.new W.drew _ _
  have HG7 : Hid (w7 = Go.Sort.grow (W.drewN 1) #[.cells #[.int .i64 r1, .int .i64 r2, .int .i64 r3] 3]) := Lib.hid (by rw [← hw7]; exact grow_one W.drew _)
  refine wpHO_run (v := .slice (some ⟨W.heap.size, 0, none⟩) 3 3) (w' := w7) rfl (by rfl) (by first | (go_simp; done) | (go_simp; exact hw7)) (fun _ => hS7) ?_
  simp only [Act.put, List.setIfInBounds_toArray, List.set_cons_zero, List.set_cons_succ]
  clear hw7
  have HO := Lib.hid (Or_any W.heap.size r1 r2 r3 w7 (hb7.cell 0) (hb7.cell 1) (hb7.cell 2))
  refine wpHO_call rfl (by rfl) (by go_simp) (HO.out.mono ?_)
  rintro e w8 ⟨rfl, rfl⟩
  refine ⟨_, rfl, fun _ => hS7, ?_⟩
  simp only [Act.put, List.setIfInBounds_toArray, List.set_cons_zero, List.set_cons_succ]
  first | (refine wpHO_off rfl (by rfl) hS7 ?_) | (refine wpHO_soft rfl (by rfl) hS7 (by intro w1 hs1; obtain ⟨q0, q1, q2, q3, q4, q5⟩ := hs1; go_simp; rfl) ?_)
  simp only [Act.put, List.setIfInBounds_toArray, List.set_cons_zero, List.set_cons_succ]
  refine wpHO_nil ?_
  go_wp2_with fail
  go_ret
  rw [HCF.out]
  refine ⟨rfl, 1, #[.cells (rdCells x).toArray 35, .cells (rdCells y).toArray 35] ++ #[.cells #[.int .i64 r1, .int .i64 r2, .int .i64 r3] 3], ?_⟩
  rw [HG7.out, HGR.out]
  exact Go.Sort.grow_grow (w.drewN 1) _ _
end Go.Proofs.YtinpopjnnljkhaaGreatDoor
/- The sort is stable: plain. -/
namespace Go.Proofs.YtinpopjnnljkhaaGreatDoor
open Go.RowKit Go.Sort

instance : Inhabited Rd := ⟨⟨⟨0, 0, 0, ⟨#[]⟩, []⟩, none, 0, 0, 0⟩⟩
/-- Ahead by place, end and code. -/
def ahD (x y : Rd) : Prop := x.dg.at_ < y.dg.at_ ∨ (x.dg.at_ = y.dg.at_ ∧ (x.dg.fin < y.dg.fin ∨ (x.dg.fin = y.dg.fin ∧ x.dg.code < y.dg.code)))
instance (x y : Rd) : Decidable (ahD x y) := by unfold ahD; exact inferInstance
def ltR (x y : Rd) : Bool := decide (ahD x y ∨ (¬ ahD y x ∧ x.tag < y.tag))
theorem lt_cf (x y : Rd) : ltOf cfD x y = decide (ahD x y) := by
  unfold ltOf
  apply decide_eq_decide.2
  unfold cfD or3 Lib.compareInt ahD
  split
  · split
    · omega
    · split <;> omega
  · split
    · split
      · omega
      · split <;> omega
    · split
      · omega
      · split <;> omega
theorem ltR_swo : SWO ltR := by
  refine ⟨fun x => ?_, fun x y z h1 h2 => ?_, fun x y z h1 h2 => ?_⟩
  · unfold ltR ahD; simp
  · unfold ltR ahD at *
    simp only [decide_eq_true_eq] at *
    omega
  · unfold ltR ahD at *
    simp only [decide_eq_false_iff_not] at *
    omega

def TagUp (i b : Nat) (d : Array Rd) : Prop := ∀ p q, p < q → i ≤ q → q < b → (d[p]!).tag < (d[q]!).tag

theorem inner_eq : ∀ (j : Nat) (d : Array Rd), j < d.size → (∀ p, p < j → (d[p]!).tag < (d[j]!).tag) → insInner (ltOf cfD) 0 j d = insInner ltR 0 j d
  | 0, d, _, _ => rfl
  | j + 1, d, hj, h => by
    have hlt : ltOf cfD d[j + 1]! d[j]! = ltR d[j + 1]! d[j]! := by
      rw [lt_cf]
      unfold ltR
      have := h j (by omega)
      apply decide_eq_decide.2
      exact ⟨fun h => .inl h, fun h => h.elim id (fun h => absurd h.2 (by omega))⟩
    unfold insInner
    rw [hlt]
    split
    · refine inner_eq j (swp d (j + 1) j) (by rw [swp_size]; omega) fun p hp => ?_
      rw [swp_right d (j + 1) j (by omega), swp_other d (j + 1) j p (by omega) (by omega)]
      exact h p (by omega)
    · rfl

theorem inner_from (lt : Rd → Rd → Bool) : ∀ (j : Nat) (d : Array Rd), j < d.size → (∀ q, j < q → (insInner lt 0 j d)[q]! = d[q]!) ∧ ∀ p, p ≤ j → ∃ p', p' ≤ j ∧ (insInner lt 0 j d)[p]! = d[p']!
  | 0, d, _ => ⟨fun q _ => rfl, fun p hp => ⟨p, hp, rfl⟩⟩
  | j + 1, d, hj => by
    unfold insInner
    split
    · obtain ⟨h1, h2⟩ := inner_from lt j (swp d (j + 1) j) (by rw [swp_size]; omega)
      have hg : ∀ k, k ≤ j + 1 → ∃ p', p' ≤ j + 1 ∧ (swp d (j + 1) j)[k]! = d[p']! := fun k hk => by
        by_cases hkj : k = j
        · subst hkj
          exact ⟨k + 1, by omega, swp_right d (k + 1) k (by omega)⟩
        · by_cases hkj1 : k = j + 1
          · subst hkj1
            exact ⟨j, by omega, swp_left d (j + 1) j hj (by omega)⟩
          · exact ⟨k, hk, swp_other d (j + 1) j k hkj1 hkj⟩
      refine ⟨fun q hq => ?_, fun p hp => ?_⟩
      · rw [h1 q (by omega), swp_other d (j + 1) j q (by omega) (by omega)]
      · by_cases hpj : p ≤ j
        · obtain ⟨p', h3, h4⟩ := h2 p hpj
          obtain ⟨p'', h5, h6⟩ := hg p' (by omega)
          exact ⟨p'', h5, by rw [h4, h6]⟩
        · have : p = j + 1 := by omega
          subst this
          rw [h1 (j + 1) (by omega)]
          exact hg (j + 1) (Nat.le_refl _)
    · exact ⟨fun q _ => rfl, fun p hp => ⟨p, hp, rfl⟩⟩

theorem inner_size (lt : Rd → Rd → Bool) : ∀ (j : Nat) (d : Array Rd), (insInner lt 0 j d).size = d.size
  | 0, d => rfl
  | j + 1, d => by
    unfold insInner
    split
    · rw [inner_size lt j, swp_size]
    · rfl

theorem outer_eq (b : Nat) : ∀ (n i : Nat) (d : Array Rd), b - i = n → b ≤ d.size → TagUp i b d → insOuter (ltOf cfD) 0 b i d = insOuter ltR 0 b i d
  | 0, i, d, hn, _, _ => by rw [insOuter_stop _ _ _ _ _ (by omega), insOuter_stop _ _ _ _ _ (by omega)]
  | n + 1, i, d, hn, hb, hT => by
    rw [insOuter_go (ltOf cfD) 0 b i d (by omega), insOuter_go ltR 0 b i d (by omega)]
    rw [inner_eq i d (by omega) (fun p hp => hT p i hp (Nat.le_refl _) (by omega))]
    obtain ⟨h1, h2⟩ := inner_from ltR i d (by omega)
    refine outer_eq b n (i + 1) _ (by omega) (by rw [inner_size ltR i d]; exact hb) fun p q hpq hiq hqb => ?_
    rw [h1 q (by omega)]
    by_cases hp : p ≤ i
    · obtain ⟨p', h3, h4⟩ := h2 p hp
      rw [h4]
      exact hT p' q (by omega) (by omega) hqb
    · rw [h1 p (by omega)]
      exact hT p q hpq (by omega) hqb

/-- What the sort yields. -/
def srtD (d : Array Rd) : Array Rd := insertionSort (ltOf cfD) d 0 d.size
theorem srtD_size (d : Array Rd) (hT : TagUp 1 d.size d) : (srtD d).size = d.size ∧ (srtD d).toList.Perm d.toList ∧ ∀ i j, i < j → j < d.size → ltR (srtD d)[i]! (srtD d)[j]! = true := by
  have e : srtD d = insertionSort ltR d 0 d.size := outer_eq d.size _ 1 d rfl (Nat.le_refl _) hT
  obtain ⟨⟨h1, -, h3⟩, h4⟩ := insertionSort_holds (lt := ltR) ltR_swo d 0 d.size (Nat.zero_le _) (Nat.le_refl _)
  rw [← e] at h1 h3 h4
  have hp : (srtD d).toList.Perm d.toList := by
    rw [Array.extract_eq_self_of_le (by omega), Array.extract_eq_self_of_le (by omega)] at h3
    exact h3
  refine ⟨h1, hp, fun i j hij hj => ?_⟩
  have h5 := h4 i j (Nat.zero_le _) hij hj
  have hne : (srtD d)[i]!.tag ≠ (srtD d)[j]!.tag := by
    have hnd : ((srtD d).toList.map Rd.tag).Nodup := by
      refine (hp.map Rd.tag).nodup_iff.2 ?_
      rw [List.nodup_iff_pairwise_ne, List.pairwise_iff_getElem]
      intro p q hp' hq' hpq
      simp only [List.getElem_map]
      have := hT p q hpq (by omega) (by simpa using hq')
      rw [getElem!_pos d p (by simpa using hp'), getElem!_pos d q (by simpa using hq')] at this
      simp only [Array.getElem_toList]
      omega
    rw [List.nodup_iff_pairwise_ne, List.pairwise_iff_getElem] at hnd
    have := hnd i j (by simp; omega) (by simp; omega) hij
    simp only [List.getElem_map, Array.getElem_toList] at this
    rw [getElem!_pos _ i (by omega), getElem!_pos _ j (by omega)]
    exact this
  unfold ltR ahD at h5 ⊢
  simp only [decide_eq_false_iff_not, decide_eq_true_eq] at h5 ⊢
  omega
end Go.Proofs.YtinpopjnnljkhaaGreatDoor
/- The sort, walked. -/
namespace Go.Proofs.YtinpopjnnljkhaaGreatDoor
open Go.RowKit Go.Sort

def insRen : Go.Shelf.Ren := ⟨fun | 20 => 223 | n => n, fun | 3 => 3 | 4 => 4 | 0 => 0 | 22 => 29 | 24 => 35 | 25 => 90 | n => n, fun n => n⟩
theorem insLays : SlLaysF0.n20 Tryz.prog insRen := {
  mixed := by kernel_rfl
  f20 := ⟨Tryz.f223.name, by kernel_rfl, Tryz.func223.trans (congrArg some (by kernel_rfl))⟩
  t0 := Tryz.underlying0
  a0 := Tryz.isAgg0
  z0 := Tryz.sizeOf0
  v0 := Tryz.zeroValue0
  t3 := Tryz.underlying3
  a3 := Tryz.isAgg3
  z3 := Tryz.sizeOf3
  v3 := Tryz.zeroValue3
  t4 := Tryz.underlying4
  a4 := Tryz.isAgg4
  z4 := Tryz.sizeOf4
  v4 := Tryz.zeroValue4
  t22 := Tryz.underlying29
  a22 := Tryz.isAgg29
  z22 := Tryz.sizeOf29
  v22 := Tryz.zeroValue29
  t25 := Tryz.underlying90
  a25 := Tryz.isAgg90
  z25 := Tryz.sizeOf90
  v25 := Tryz.zeroValue90 }
theorem cmpD_lays (blk off n : Nat) (w : World) : CmpLays Tryz.prog 26 #[] rdCells 5 cfD blk off n w := fun m os dk _ x y => by
  rw [Array.append_empty]
  exact cmpD_any x y _
theorem ins_any (blk off cap a b : Nat) (d : Array Rd) (w : World) (hH : HoldsK rdCells 5 w blk off d) (hblk : blk < w.heap.size) (hab : a ≤ b) (hb : b ≤ d.size) (hn : d.size ≤ 1000) :
    Calls Tryz.prog 223 #[.slice (some ⟨blk, off, none⟩) d.size cap, .int .i64 a, .int .i64 b, .func (.func 26) #[] #[]] w fun e w' => e = .returned (.tuple #[]) ∧ ∃ n os, w' = sortWorldK rdCells 5 w blk off n (insertionSort (ltOf cfD) d a b) os :=
  AnyQ.insertionSortCmpFunc insLays 5 Tryz.isAgg35 Tryz.sizeOf35 rdCells (fun _ => rfl) (fun x v hv => by simp [rdCells] at hv; rcases hv with rfl | rfl | rfl | rfl | rfl <;> rfl) cfD 26 #[] blk off cap a b d w (enters_of Tryz.func26 (by kernel_rfl) rfl) (cmpD_lays _ _ _ _) hH hblk hab hb (by omega)
theorem sw_below (w : World) (blk off m : Nat) (dk : Array Rd) (os : Array Obj) (B : Nat) (hB : B ≤ blk) (hb : B ≤ w.heap.size) : Below B w (sortWorldK rdCells 5 w blk off m dk os) := by
  have h : Below B w (putRowK rdCells 5 (Sort.ahead w m) blk off dk) := ⟨rfl, rfl, rfl, by simp [putRowK, putRow, mapBlock, Sort.ahead], fun k hk => by
    simp [putRowK, putRow, mapBlock, Sort.ahead, Array.getElem?_modify, show blk ≠ k by omega]⟩
  exact h.trans (by
    have := Lib.below_grow B (putRowK rdCells 5 (Sort.ahead w m) blk off dk) (by simpa [putRowK, putRow, mapBlock, Sort.ahead] using hb) 0 os
    exact this)
theorem sw_holds (w : World) (blk off m : Nat) (d dk : Array Rd) (os : Array Obj) (hH : HoldsK rdCells 5 w blk off d) (hblk : blk < w.heap.size) (hs : dk.size = d.size) : HoldsK rdCells 5 (sortWorldK rdCells 5 w blk off m dk os) blk off dk := holdsK_sortWorldK_c rdCells 5 w blk off d dk m os hH hblk hs
theorem sw_size (w : World) (blk off m : Nat) (dk : Array Rd) (os : Array Obj) : w.heap.size ≤ (sortWorldK rdCells 5 w blk off m dk os).heap.size := size_sortWorldK_c rdCells 5 w blk off m dk os

set_option maxHeartbeats 8000000 in
set_option maxRecDepth 100000 in
theorem stable_any (blk off cap n : Nat) (d : Array Rd) (w : World) (hH : HoldsK rdCells 5 w blk off d) (hblk : blk < w.heap.size) (hT : TagUp 1 d.size d) (hd : d.size = n) (hn : n ≤ 20) :
    Calls Tryz.prog 129 #[.slice (some ⟨blk, off, none⟩) n cap, .int .i64 n, .func (.func 26) #[] #[]] w fun e w' => e = .returned (.tuple #[]) ∧ HoldsK rdCells 5 w' blk off (srtD d) ∧ ∀ B, B ≤ blk → Below B w w' := by
  have HS := Lib.hid (srtD_size d hT).1
  have HH := Lib.hid hH
  have HBK := Lib.hid hblk
  have HD := Lib.hid hd
  have HDEF : Hid (srtD d = insertionSort (ltOf cfD) d 0 d.size) := Lib.hid rfl
  clear hT hH hblk hd
  go_enter Tryz.func129, Tryz.ntmps129
  go_wp2_with fail
  go_loopg [7, 8] 1 (fun gk s7 s8 wr => (gk = 1 ∧ s7 = .int .i64 0 ∧ s8 = .int .i64 20 ∧ wr = w) ∨ (gk = 0 ∧ n = 20 ∧ s7 = .int .i64 20 ∧ s8 = .int .i64 40 ∧ Hid (HoldsK rdCells 5 wr blk off (srtD d) ∧ blk < wr.heap.size ∧ ∀ B, B ≤ blk → Below B w wr)))
  case atStart => exact .inl ⟨rfl, rfl, rfl, rfl⟩
  case round =>
    rcases hrel with ⟨hg, rfl, rfl, rfl⟩ | ⟨hg, hn20, rfl, rfl, HR⟩
    · by_cases hn20 : n = 20
      · subst hn20
        have hc := ins_any blk off cap 0 20 d wr HH.out HBK.out (by omega) (by rw [HD.out]; omega) (by rw [HD.out]; omega)
        rw [HD.out] at hc
        have HCC := Lib.hid hc
        clear hc
        go_wp2_with fail
        refine HCC.out.mono ?_
        rintro e w2 ⟨rfl, q, os, hw2⟩
        have HW2 := Lib.hid hw2
        clear hw2
        go_wp2_with fail
        go_roundg 0
        case measure => omega
        case rel =>
          refine .inr ⟨by simp, by simp, by go_num, by go_num, Lib.hid ?_⟩
          have e : srtD d = insertionSort (ltOf cfD) d 0 20 := by rw [HDEF.out, HD.out]
          rw [HW2.out, ← e]
          exact ⟨sw_holds _ _ _ _ d _ _ HH.out HBK.out HS.out, Nat.lt_of_lt_of_le HBK.out (sw_size _ _ _ _ _ _), fun B hB => sw_below _ _ _ _ _ _ B hB (by have := HBK.out; omega)⟩
      · have hni : ¬ (20 : Int) ≤ (n : Int) := by omega
        have hni2 : ¬ (20 : Int) < (n : Int) := by omega
        have hc := ins_any blk off cap 0 n d wr HH.out HBK.out (by omega) (by rw [HD.out]; omega) (by rw [HD.out]; omega)
        rw [HD.out] at hc
        have HCC := Lib.hid hc
        clear hc
        go_wp2_with fail
        refine HCC.out.mono ?_
        rintro e w2 ⟨rfl, q, os, hw2⟩
        have HW2 := Lib.hid hw2
        clear hw2
        go_wp2_with fail
        obtain ⟨wo, hwo⟩ : ∃ wo : World, wo = wr := ⟨_, rfl⟩
        subst hwo
        go_loopg [6] 0 (fun gk s6 wr => s6 = .int .i64 20 ∧ wr = w2)
        case atStart => exact ⟨rfl, rfl⟩
        case round =>
          obtain ⟨rfl, rfl⟩ := hrel
          go_wp2_with fail
          go_end0
          have e : srtD d = insertionSort (ltOf cfD) d 0 n := by rw [HDEF.out, HD.out]
          rw [HW2.out, ← e]
          exact ⟨rfl, sw_holds _ _ _ _ d _ _ HH.out HBK.out HS.out, fun B hB => sw_below _ _ _ _ _ _ B hB (by have := HBK.out; omega)⟩
    · subst hn20
      have hc := ins_any blk off cap 20 20 (srtD d) wr HR.out.1 HR.out.2.1 (by omega) (by rw [HS.out, HD.out]; omega) (by rw [HS.out, HD.out]; omega)
      rw [HS.out, HD.out] at hc
      have HCC := Lib.hid hc
      clear hc
      go_wp2_with fail
      refine HCC.out.mono ?_
      rintro e w2 ⟨rfl, q, os, hw2⟩
      have HW2 := Lib.hid hw2
      clear hw2
      go_wp2_with fail
      obtain ⟨wo, hwo⟩ : ∃ wo : World, wo = wr := ⟨_, rfl⟩
      subst hwo
      go_loopg [6] 0 (fun gk s6 wr => s6 = .int .i64 20 ∧ wr = w2)
      case atStart => exact ⟨rfl, rfl⟩
      case round =>
        obtain ⟨rfl, rfl⟩ := hrel
        go_wp2_with fail
        go_end0
        have e : insertionSort (ltOf cfD) (srtD d) 20 20 = srtD d := insOuter_stop _ _ _ _ _ (by omega)
        rw [HW2.out, e]
        obtain ⟨h1, h2, h3⟩ := HR.out
        exact ⟨rfl, sw_holds _ _ _ _ (srtD d) _ _ h1 h2 rfl, fun B hB => (h3 B hB).trans (sw_below _ _ _ _ _ _ B hB (by omega))⟩

set_option maxHeartbeats 4000000 in
set_option maxRecDepth 100000 in
theorem sortStable_any (blk off cap n : Nat) (d : Array Rd) (w : World) (hH : HoldsK rdCells 5 w blk off d) (hblk : blk < w.heap.size) (hT : TagUp 1 d.size d) (hd : d.size = n) (hn : n ≤ 20) :
    Calls Tryz.prog 55 #[.slice (some ⟨blk, off, none⟩) n cap, .func (.func 26) #[] #[]] w fun e w' => e = .returned (.tuple #[]) ∧ HoldsK rdCells 5 w' blk off (srtD d) ∧ ∀ B, B ≤ blk → Below B w w' := by
  have HC := Lib.hid (stable_any blk off cap n d w hH hblk hT hd hn)
  clear hH hblk hT hd
  go_enter Tryz.func55, Tryz.ntmps55
  go_wp2_with fail
  refine HC.out.mono ?_
  rintro e w2 ⟨rfl, h1, h2⟩
  have HR := Lib.hid (And.intro h1 h2)
  clear h1 h2
  go_wp2_with fail
  go_end0
  exact ⟨rfl, HR.out.1, HR.out.2⟩

set_option maxHeartbeats 4000000 in
set_option maxRecDepth 100000 in
theorem ins_none (cap : Nat) (fv : Value) (w : World) :
    Calls Tryz.prog 223 #[.slice none 0 cap, .int .i64 0, .int .i64 0, fv] w fun e w' => e = .returned (.tuple #[]) ∧ w' = w := by
  go_enter Tryz.func223, Tryz.ntmps223
  go_wp2_with fail
  go_loopg [8] 0 (fun gk s8 wr => s8 = .int .i64 1 ∧ wr = w)
  case atStart => exact ⟨rfl, rfl⟩
  case round =>
    obtain ⟨rfl, rfl⟩ := hrel
    go_wp2_with fail
    go_end0
    exact ⟨rfl, rfl⟩

set_option maxHeartbeats 4000000 in
set_option maxRecDepth 100000 in
theorem stable_none (cap : Nat) (fv : Value) (w : World) :
    Calls Tryz.prog 129 #[.slice none 0 cap, .int .i64 0, fv] w fun e w' => e = .returned (.tuple #[]) ∧ w' = w := by
  have HC := Lib.hid (ins_none cap fv w)
  go_enter Tryz.func129, Tryz.ntmps129
  go_wp2_with fail
  go_loopg [7, 8] 0 (fun gk s7 s8 wr => s7 = .int .i64 0 ∧ s8 = .int .i64 20 ∧ wr = w)
  case atStart => exact ⟨rfl, rfl, rfl⟩
  case round =>
    obtain ⟨rfl, rfl, rfl⟩ := hrel
    go_wp2_with fail
    refine HC.out.mono ?_
    rintro e w2 ⟨rfl, rfl⟩
    go_wp2_with fail
    obtain ⟨wo, hwo⟩ : ∃ wo : World, wo = w2 := ⟨_, rfl⟩
    subst hwo
    go_loopg [6] 0 (fun gk s6 wr => s6 = .int .i64 20 ∧ wr = wo)
    case atStart => exact ⟨rfl, rfl⟩
    case round =>
      obtain ⟨rfl, rfl⟩ := hrel
      go_wp2_with fail
      go_end0
      exact ⟨rfl, rfl⟩

set_option maxHeartbeats 4000000 in
set_option maxRecDepth 100000 in
theorem sortStable_none (cap : Nat) (fv : Value) (w : World) :
    Calls Tryz.prog 55 #[.slice none 0 cap, fv] w fun e w' => e = .returned (.tuple #[]) ∧ w' = w := by
  have HC := Lib.hid (stable_none cap fv w)
  go_enter Tryz.func55, Tryz.ntmps55
  go_wp2_with fail
  refine HC.out.mono ?_
  rintro e w2 ⟨rfl, rfl⟩
  go_wp2_with fail
  go_end0
  exact ⟨rfl, rfl⟩
end Go.Proofs.YtinpopjnnljkhaaGreatDoor
