/- TemplatesUndoes: an edit, and then the edit that undoes it, gives the tree. Part 1 of 14. -/
import Derived.CallsIn
import Derived.Laws.World
import Derived.Laws.Sem
/- A machine of its own for closed runs, made for the kernel: values are records, frames are pairs, code turned into functions, what comes next handed on. Definitions. -/
namespace Go.Proofs.YtfkdkbekmimhoaaGreatDoor

/-- A value: tag 0 integer (a: kind, i), 1 bool (a), 2 string (s), 3 pointer (a: not nil, b block, c offset), 4 slice (a: not nil, b, c, d length, e capacity), 5 map (a, b), 6 function (a: 0 nil, 1 function b with l bound, c of them ahead of the arguments, 2 yield of loop b), 7 cells, 8 tuple, 9 nothing is said. -/
structure AV where
  tag : Nat
  a : Nat
  b : Nat
  c : Nat
  d : Nat
  e : Nat
  i : Int
  s : List UInt8
  l : List AV

instance : Inhabited AV := ⟨⟨9, 0, 0, 0, 0, 0, 0, [], []⟩⟩

def AV.int (k : Nat) (i : Int) : AV := ⟨0, k, 0, 0, 0, 0, i, [], []⟩
def AV.bool (b : Bool) : AV := ⟨1, b.toNat, 0, 0, 0, 0, 0, [], []⟩
def AV.str (s : List UInt8) : AV := ⟨2, 0, 0, 0, 0, 0, 0, s, []⟩
def AV.ptr (b c : Nat) : AV := ⟨3, 1, b, c, 0, 0, 0, [], []⟩
def AV.pnil : AV := ⟨3, 0, 0, 0, 0, 0, 0, [], []⟩
def AV.slc (b c d e : Nat) : AV := ⟨4, 1, b, c, d, e, 0, [], []⟩
def AV.snil : AV := ⟨4, 0, 0, 0, 0, 0, 0, [], []⟩
def AV.map (b : Nat) : AV := ⟨5, 1, b, 0, 0, 0, 0, [], []⟩
def AV.mnil : AV := ⟨5, 0, 0, 0, 0, 0, 0, [], []⟩
def AV.fn (f n : Nat) (l : List AV) : AV := ⟨6, 1, f, n, 0, 0, 0, [], l⟩
def AV.fnil : AV := ⟨6, 0, 0, 0, 0, 0, 0, [], []⟩
def AV.yield (b : Nat) : AV := ⟨6, 2, b, 0, 0, 0, 0, [], []⟩
def AV.agg (l : List AV) : AV := ⟨7, 0, 0, 0, 0, 0, 0, [], l⟩
def AV.tup (l : List AV) : AV := ⟨8, 0, 0, 0, 0, 0, 0, [], l⟩
def AV.junk : AV := ⟨9, 0, 0, 0, 0, 0, 0, [], []⟩
def AV.inil : AV := ⟨10, 0, 0, 0, 0, 0, 0, [], []⟩
def AV.undef : AV := AV.tup []

/-- A thing in a box: the kernel keeps what a closed box holds. -/
structure Bx (α : Type) where
  f : α

/-- Eight things. -/
structure N8 (α : Type) where
  f0 : α
  f1 : α
  f2 : α
  f3 : α
  f4 : α
  f5 : α
  f6 : α
  f7 : α

def sel8 {α β : Type} (i : Nat) (k : (N8 α → α) → β) : β :=
  match i with
  | 0 => k N8.f0 | 1 => k N8.f1 | 2 => k N8.f2 | 3 => k N8.f3 | 4 => k N8.f4 | 5 => k N8.f5 | 6 => k N8.f6 | _ => k N8.f7
def put8 {α β : Type} (i : Nat) (k : (N8 α → α → N8 α) → β) : β :=
  match i with
  | 0 => k fun t v => ⟨v, t.f1, t.f2, t.f3, t.f4, t.f5, t.f6, t.f7⟩
  | 1 => k fun t v => ⟨t.f0, v, t.f2, t.f3, t.f4, t.f5, t.f6, t.f7⟩
  | 2 => k fun t v => ⟨t.f0, t.f1, v, t.f3, t.f4, t.f5, t.f6, t.f7⟩
  | 3 => k fun t v => ⟨t.f0, t.f1, t.f2, v, t.f4, t.f5, t.f6, t.f7⟩
  | 4 => k fun t v => ⟨t.f0, t.f1, t.f2, t.f3, v, t.f5, t.f6, t.f7⟩
  | 5 => k fun t v => ⟨t.f0, t.f1, t.f2, t.f3, t.f4, v, t.f6, t.f7⟩
  | 6 => k fun t v => ⟨t.f0, t.f1, t.f2, t.f3, t.f4, t.f5, v, t.f7⟩
  | _ => k fun t v => ⟨t.f0, t.f1, t.f2, t.f3, t.f4, t.f5, t.f6, v⟩
def rep8 {α : Type} (a : α) : N8 α := ⟨a, a, a, a, a, a, a, a⟩

/-- A frame: 64 slots, and 512 more. -/
structure Fr where
  lo : N8 (N8 AV)
  hi : N8 (N8 (N8 AV))
def frame0 : Fr := ⟨rep8 (rep8 AV.undef), rep8 (rep8 (rep8 AV.undef))⟩

def getF (i : Nat) : Bx (Fr → AV) :=
  match Nat.blt i 64 with
  | true => sel8 (i / 8) fun g => sel8 (i % 8) fun f => ⟨fun t => f (g t.lo)⟩
  | false => sel8 ((i - 64) / 64) fun g => sel8 ((i - 64) / 8 % 8) fun f => sel8 ((i - 64) % 8) fun e => ⟨fun t => e (f (g t.hi))⟩
def setF (i : Nat) : Bx (Fr → AV → Fr) :=
  match Nat.blt i 64 with
  | true => sel8 (i / 8) fun g => put8 (i / 8) fun G => put8 (i % 8) fun F => ⟨fun t v => ⟨G t.lo (F (g t.lo) v), t.hi⟩⟩
  | false => sel8 ((i - 64) / 64) fun g => put8 ((i - 64) / 64) fun G => sel8 ((i - 64) / 8 % 8) fun f => put8 ((i - 64) / 8 % 8) fun F => put8 ((i - 64) % 8) fun E =>
    ⟨fun t v => ⟨t.lo, G t.hi (F (g t.hi) (E (f (g t.hi)) v))⟩⟩

structure ME where
  key : AV
  val : AV
  born : Nat

/-- An object: cells; a map whose entries lie as they lie in memory; a map that is only looked up; an iterator over a map; the record of a loop over a function. -/
structure OB where
  kind : Nat   -- 0 cells, 1 map, 2 literal, 3 iterator, 4 loop
  n : Nat      -- element type · clock · · map · what a round left (0 nothing, 1 an exit, 2 a return)
  m : Nat      -- · · · since · state (0 ready, 1 busy, 2 done, 3 exhausted)
  cs : List AV
  es : List ME
  ns : List Nat   -- seen · the exit
  lp : Option (Nat × Fr × List Tmp × Code × Code)

def OB.arr (cs : List AV) (e : Nat) : OB := ⟨0, e, 0, cs, [], [], none⟩
def OB.map (es : List ME) (c : Nat) : OB := ⟨1, c, 0, [], es, [], none⟩
def OB.lit (es : List ME) : OB := ⟨2, 0, 0, [], es, [], none⟩
def OB.iter (m since : Nat) (seen : List Nat) : OB := ⟨3, m, since, [], [], seen, none⟩
def OB.loop (x o st : Nat) (lp : Nat × Fr × List Tmp × Code × Code) : OB := ⟨4, x, st, [], [], [o], some lp⟩

--{REC
noncomputable def ifB {α : Type} (b : Bool) (x y : α) : α := Bool.rec y x b
theorem ifB_true {α : Type} (x y : α) : ifB true x y = x := rfl
theorem ifB_false {α : Type} (x y : α) : ifB false x y = y := rfl

/-- The kernel's Nat.rec turns a number into a written one. -/
noncomputable def litN {α : Type} (n : Nat) (k : Nat → α) : α := Nat.rec (motive := fun _ => α) (k 0) (fun m _ => k m) (Nat.add n 1)
theorem litN_eq {α : Type} (n : Nat) (k : Nat → α) : litN n k = k n := rfl
noncomputable def bitK {β : Type} (n : Nat) (x y : β) : β := Nat.rec (motive := fun _ => β) x (fun _ _ => y) n
noncomputable def s8K {α β : Type} (i : Nat) (k : (N8 α → α) → β) : β :=
  bitK (Nat.div (Nat.mod i 8) 4) (bitK (Nat.mod (Nat.div i 2) 2) (bitK (Nat.mod i 2) (k N8.f0) (k N8.f1)) (bitK (Nat.mod i 2) (k N8.f2) (k N8.f3))) (bitK (Nat.mod (Nat.div i 2) 2) (bitK (Nat.mod i 2) (k N8.f4) (k N8.f5)) (bitK (Nat.mod i 2) (k N8.f6) (k N8.f7)))
def N8.u0 {α : Type} (t : N8 α) (v : α) : N8 α := ⟨v, t.f1, t.f2, t.f3, t.f4, t.f5, t.f6, t.f7⟩
def N8.u1 {α : Type} (t : N8 α) (v : α) : N8 α := ⟨t.f0, v, t.f2, t.f3, t.f4, t.f5, t.f6, t.f7⟩
def N8.u2 {α : Type} (t : N8 α) (v : α) : N8 α := ⟨t.f0, t.f1, v, t.f3, t.f4, t.f5, t.f6, t.f7⟩
def N8.u3 {α : Type} (t : N8 α) (v : α) : N8 α := ⟨t.f0, t.f1, t.f2, v, t.f4, t.f5, t.f6, t.f7⟩
def N8.u4 {α : Type} (t : N8 α) (v : α) : N8 α := ⟨t.f0, t.f1, t.f2, t.f3, v, t.f5, t.f6, t.f7⟩
def N8.u5 {α : Type} (t : N8 α) (v : α) : N8 α := ⟨t.f0, t.f1, t.f2, t.f3, t.f4, v, t.f6, t.f7⟩
def N8.u6 {α : Type} (t : N8 α) (v : α) : N8 α := ⟨t.f0, t.f1, t.f2, t.f3, t.f4, t.f5, v, t.f7⟩
def N8.u7 {α : Type} (t : N8 α) (v : α) : N8 α := ⟨t.f0, t.f1, t.f2, t.f3, t.f4, t.f5, t.f6, v⟩
noncomputable def p8K {α β : Type} (i : Nat) (k : (N8 α → α → N8 α) → β) : β :=
  bitK (Nat.div (Nat.mod i 8) 4) (bitK (Nat.mod (Nat.div i 2) 2) (bitK (Nat.mod i 2) (k N8.u0) (k N8.u1)) (bitK (Nat.mod i 2) (k N8.u2) (k N8.u3))) (bitK (Nat.mod (Nat.div i 2) 2) (bitK (Nat.mod i 2) (k N8.u4) (k N8.u5)) (bitK (Nat.mod i 2) (k N8.u6) (k N8.u7)))

/-- Where the objects lie: 32768 places, and a tree for more. -/
abbrev T1 := N8 (Option OB)
abbrev T2 := N8 T1
abbrev T3 := N8 T2
abbrev T4 := N8 T3
abbrev T5 := N8 T4
noncomputable def gH1 (i : Nat) : Bx (T5 → T4) := s8K i fun f => ⟨f⟩
noncomputable def gH2 (i : Nat) : Bx (T5 → T3) := litN (Nat.div i 8) fun q => s8K i fun f => ⟨fun t => f ((gH1 q).f t)⟩
noncomputable def gH3 (i : Nat) : Bx (T5 → T2) := litN (Nat.div i 8) fun q => s8K i fun f => ⟨fun t => f ((gH2 q).f t)⟩
noncomputable def gH4 (i : Nat) : Bx (T5 → T1) := litN (Nat.div i 8) fun q => s8K i fun f => ⟨fun t => f ((gH3 q).f t)⟩
noncomputable def gH5 (i : Nat) : Bx (T5 → Option OB) := litN (Nat.div i 8) fun q => s8K i fun f => ⟨fun t => f ((gH4 q).f t)⟩
noncomputable def uH1 (i : Nat) : Bx (T5 → T4 → T5) := p8K i fun f => ⟨f⟩
noncomputable def uH2 (i : Nat) : Bx (T5 → T3 → T5) := litN (Nat.div i 8) fun q => p8K i fun f => ⟨fun t v => (uH1 q).f t (f ((gH1 q).f t) v)⟩
noncomputable def uH3 (i : Nat) : Bx (T5 → T2 → T5) := litN (Nat.div i 8) fun q => p8K i fun f => ⟨fun t v => (uH2 q).f t (f ((gH2 q).f t) v)⟩
noncomputable def uH4 (i : Nat) : Bx (T5 → T1 → T5) := litN (Nat.div i 8) fun q => p8K i fun f => ⟨fun t v => (uH3 q).f t (f ((gH3 q).f t) v)⟩
noncomputable def uH5 (i : Nat) : Bx (T5 → Option OB → T5) := litN (Nat.div i 8) fun q => p8K i fun f => ⟨fun t v => (uH4 q).f t (f ((gH4 q).f t) v)⟩
inductive Trib where
  | nil
  | node (v : Option OB) (l r : Trib)
noncomputable def Trib.get (t : Trib) : Nat → Option OB :=
  Trib.rec (motive := fun _ => Nat → Option OB) (fun _ => none) (fun v _ _ ihl ihr n => ifB (Nat.beq n 0) v (ifB (Nat.beq (n % 2) 1) (ihl (n / 2)) (ihr (n / 2 - 1)))) t
def Trib.v : Trib → Option OB
  | .nil => none
  | .node v _ _ => v
def Trib.l : Trib → Trib
  | .nil => .nil
  | .node _ l _ => l
def Trib.r : Trib → Trib
  | .nil => .nil
  | .node _ _ r => r
noncomputable def Trib.put (o : Option OB) (d : Nat) : Trib → Nat → Trib :=
  Nat.rec (motive := fun _ => Trib → Nat → Trib) (fun t _ => t) (fun _ ih t n => ifB (Nat.beq n 0) (.node o t.l t.r) (ifB (Nat.beq (n % 2) 1) (.node t.v (ih t.l (n / 2)) t.r) (.node t.v t.l (ih t.r (n / 2 - 1))))) d
structure Trie where
  lo : T5
  hi : Trib
  low : Nat
def Trie.nil : Trie := ⟨rep8 (rep8 (rep8 (rep8 (rep8 none)))), .nil, 0⟩
/-- The least number that was written to since the mark. -/
noncomputable def lowM (a i : Nat) : Nat := ifB (Nat.blt i a) i a
noncomputable def getH (i : Nat) : Bx (Trie → Option OB) := ifB (Nat.blt i 32768) ⟨fun t => (gH5 i).f t.lo⟩ ⟨fun t => t.hi.get (i - 32768)⟩
noncomputable def putH (i : Nat) : Bx (Trie → Option OB → Trie) := ifB (Nat.blt i 32768) ⟨fun t v => litN (lowM t.low i) fun l => ⟨(uH5 i).f t.lo v, t.hi, l⟩⟩ (ifB (Nat.ble (i + 2) 16777216) ⟨fun t v => litN (lowM t.low i) fun l => ⟨t.lo, Trib.put v 24 t.hi (i - 32768), l⟩⟩ ⟨fun t _ => t⟩)
attribute [irreducible] getH putH
structure AH where
  t : Trie
  next : Nat
def AH.low (h : AH) : Nat := h.t.low
/-- From here on writes are noted. -/
def AH.mark (h : AH) : AH := ⟨⟨h.t.lo, h.t.hi, h.next⟩, h.next⟩
noncomputable def AH.get (h : AH) (i : Nat) : Option OB := litN i fun j => (getH j).f h.t
noncomputable def AH.put (h : AH) (i : Nat) (o : Option OB) : AH := ⟨litN i fun j => (putH j).f h.t o, h.next⟩
noncomputable def AH.new (h : AH) (o : OB) : AH := litN h.next fun j => ⟨(putH j).f h.t (some o), Nat.add j 1⟩

section
variable {R : Type}
noncomputable def nthK (no : R) (l : List AV) : Nat → (AV → R) → R :=
  List.rec (motive := fun _ => Nat → (AV → R) → R) (fun _ _ => no) (fun a _ ih n k => Nat.rec (motive := fun _ => R) (k a) (fun j _ => ih j k) n) l
noncomputable def snthK (no : R) (l : List UInt8) : Nat → (UInt8 → R) → R :=
  List.rec (motive := fun _ => Nat → (UInt8 → R) → R) (fun _ _ => no) (fun a _ ih n k => Nat.rec (motive := fun _ => R) (k a) (fun j _ => ih j k) n) l
/-- n cells from o on. -/
noncomputable def takeK (no : R) (l : List AV) : Nat → Nat → (List AV → R) → R :=
  List.rec (motive := fun _ => Nat → Nat → (List AV → R) → R) (fun _ n k => Nat.rec (motive := fun _ => R) (k []) (fun _ _ => no) n)
    (fun a _ ih o n k => Nat.rec (motive := fun _ => R) (Nat.rec (motive := fun _ => R) (k []) (fun m _ => ih 0 m (fun r => k (a :: r))) n) (fun j _ => ih j n k) o) l
noncomputable def setK (no : R) (l : List AV) : Nat → List AV → (List AV → R) → R :=
  List.rec (motive := fun _ => Nat → List AV → (List AV → R) → R) (fun _ vs k => List.rec (motive := fun _ => R) (k []) (fun _ _ _ => no) vs)
    (fun a xs ih o vs k => Nat.rec (motive := fun _ => R) (List.rec (motive := fun _ => R) (k (a :: xs)) (fun v vs _ => ih 0 vs (fun r => k (v :: r))) vs) (fun j _ => ih j vs (fun r => k (a :: r))) o) l
/-- At most n turns of a loop. -/
noncomputable def loopK {T H O : Type} (no : R) (f : T → H → (Nat → O → T → H → R) → R) (n : Nat) : T → H → (Nat → O → T → H → R) → R :=
  Nat.rec (motive := fun _ => T → H → (Nat → O → T → H → R) → R) (fun _ _ _ => no) (fun _ ih t h k => f t h fun x o t h => ifB (Nat.beq x 0) (ih t h k) (k x o t h)) n
end
noncomputable def nthN {R : Type} (l : List Nat) (k : Nat → Option R) : Option R := List.rec (motive := fun _ => Option R) none (fun a _ _ => k a) l
noncomputable def strEq (l : List UInt8) : List UInt8 → Bool :=
  List.rec (motive := fun _ => List UInt8 → Bool) (fun m => List.rec (motive := fun _ => Bool) true (fun _ _ _ => false) m) (fun a _ ih m => List.rec (motive := fun _ => Bool) false (fun b bs _ => ifB (Nat.beq a.toNat b.toNat) (ih bs) false) m) l
noncomputable def intLt (x y : Int) : Bool :=
  Int.rec (motive := fun _ => Bool) (fun m => Int.rec (motive := fun _ => Bool) (fun n => Nat.ble (m + 1) n) (fun _ => false) y) (fun m => Int.rec (motive := fun _ => Bool) (fun _ => true) (fun n => Nat.ble (n + 1) m) y) x
noncomputable def intEq (x y : Int) : Bool :=
  Int.rec (motive := fun _ => Bool) (fun m => Int.rec (motive := fun _ => Bool) (fun n => Nat.beq m n) (fun _ => false) y) (fun m => Int.rec (motive := fun _ => Bool) (fun _ => false) (fun n => Nat.beq m n) y) x
noncomputable def intAdd (x y : Int) : Int :=
  Int.rec (motive := fun _ => Int) (fun m => Int.rec (motive := fun _ => Int) (fun n => ifB (Nat.ble (m + n) 9223372036854775807) (Int.ofNat (m + n)) (IntKind.i64.wrap (x + y))) (fun _ => IntKind.i64.wrap (x + y)) y) (fun _ => IntKind.i64.wrap (x + y)) x
noncomputable def intSub (x y : Int) : Int :=
  Int.rec (motive := fun _ => Int) (fun m => Int.rec (motive := fun _ => Int) (fun n => ifB (Nat.ble n m) (ifB (Nat.ble m 9223372036854775807) (Int.ofNat (m - n)) (IntKind.i64.wrap (x - y))) (IntKind.i64.wrap (x - y))) (fun _ => IntKind.i64.wrap (x - y)) y) (fun _ => IntKind.i64.wrap (x - y)) x
/-- A natural number, or nothing. -/
noncomputable def natK {R : Type} (no : R) (i : Int) (k : Nat → R) : R := Int.rec (motive := fun _ => R) k (fun _ => no) i
noncomputable def optK {α R : Type} (no : R) (x : Option α) (k : α → R) : R := Option.rec (motive := fun _ => R) no k x
--}REC

/-- What a run comes to: yes, or a value and a memory. -/
inductive RV where
  | yes
  | val (v : AV) (h : AH)
def RV.heap : RV → AH
  | .yes => ⟨.nil, 0⟩
  | .val _ h => h
abbrev R := Option RV

def kindN : IntKind → Nat
  | .i64 => 0 | .u8 => 1 | .i8 => 2 | .i16 => 3 | .i32 => 4 | .u16 => 5 | .u32 => 6 | .u64 => 7
def kindOf : Nat → IntKind
  | 0 => .i64 | 1 => .u8 | 2 => .i8 | 3 => .i16 | 4 => .i32 | 5 => .u16 | 6 => .u32 | _ => .u64

/-- Values that name no memory, from the model's values and back. -/
def ofV1 : Value → AV
  | .bool b => .bool b
  | .int k n => .int (kindN k) n
  | .string s => .str s.data.toList
  | .pointer none => .pnil
  | .slice none 0 0 => .snil
  | .map none => .mnil
  | .nilFunc => .fnil
  | .nilIface => .inil
  | .func (.func f) a b => match a.toList, b.toList with
    | [], [] => .fn f 0 []
    | _, _ => .junk
  | _ => .junk
def ofV : Value → AV
  | .agg cs => .agg (cs.toList.map ofV1)
  | .tuple cs => .tup (cs.toList.map ofV1)
  | v => ofV1 v
def toV1 (v : AV) : Option Value :=
  match v.tag, v.a with
  | 0, a => some (.int (kindOf a) v.i)
  | 1, 0 => some (.bool false)
  | 1, 1 => some (.bool true)
  | 2, _ => some (.string ⟨v.s.toArray⟩)
  | 3, 0 => some (.pointer none)
  | 4, 0 => some (.slice none 0 0)
  | 5, 0 => some (.map none)
  | 6, 0 => some .nilFunc
  | 10, _ => some .nilIface
  | _, _ => none
def toVs : List AV → Option (List Value)
  | [] => some []
  | v :: l => match toV1 v with
    | some x => (toVs l).map (x :: ·)
    | none => none
def toV (v : AV) : Option Value :=
  match v.tag with
  | 7 => (toVs v.l).map fun l => .agg l.toArray
  | 8 => (toVs v.l).map fun l => .tuple l.toArray
  | _ => toV1 v

--{BOXV
/-- A value, brought to its form. -/
noncomputable def boxV (v : AV) : Bx (Fr → AV) := AV.casesOn (motive_1 := fun _ => Bx (Fr → AV)) v fun tag a b c d e i s l => ⟨fun _ => ⟨tag, a, b, c, d, e, i, s, l⟩⟩
theorem boxV_eq (v : AV) : boxV v = ⟨fun _ => v⟩ := by cases v; rfl
--}BOXV
noncomputable def evB : Operand → Bx (Fr → AV)
  | .tmp i => match Nat.blt i 512 with
    | true => getF i
    | false => ⟨fun _ => .junk⟩
  | .const v => boxV (ofV v)
  | .func f => ⟨fun _ => .fn f 0 []⟩
  | .global _ => ⟨fun _ => .junk⟩

def semEv {α : Type} (P : Program) : Sem α → Option α
  | .pure a => some a
  | .program k => semEv P (k P)
  | .mark _ k => semEv P k
  | _ => none

--{ATK
noncomputable def tlK {α : Type} (l : List α) : List α := List.rec (motive := fun _ => List α) [] (fun _ t _ => t) l
noncomputable def tl8 {α : Type} (l : List α) : List α := tlK (tlK (tlK (tlK (tlK (tlK (tlK (tlK l)))))))
/-- Eight times q things left out. -/
noncomputable def dr8 {α : Type} (l : List α) (q : Nat) : List α := Nat.rec (motive := fun _ => List α) l (fun _ r => tl8 r) q
noncomputable def headK {α : Type} (l : List α) : Option α := List.rec (motive := fun _ => Option α) none (fun a _ _ => some a) l
/-- The n-th of a list, quick. -/
noncomputable def atK {α : Type} (l : List α) (n : Nat) : Option α := litN (Nat.div n 8) fun q => litN (Nat.mod n 8) fun r => headK (Nat.rec (motive := fun _ => List α) (dr8 l q) (fun _ r => tlK r) r)
theorem tlK_eq {α : Type} (l : List α) : tlK l = l.drop 1 := by cases l <;> rfl
theorem dr8_eq {α : Type} (l : List α) : ∀ q, dr8 l q = l.drop (8 * q)
  | 0 => rfl
  | q + 1 => by
    have e : dr8 l (q + 1) = tl8 (dr8 l q) := rfl
    rw [e, dr8_eq l q]
    unfold tl8
    simp only [tlK_eq, List.drop_drop]
    congr 1
theorem tls_eq {α : Type} (l : List α) : ∀ r : Nat, (Nat.rec (motive := fun _ => List α) l (fun _ r => tlK r) r : List α) = l.drop r
  | 0 => rfl
  | r + 1 => by
    show tlK (Nat.rec (motive := fun _ => List α) l (fun _ r => tlK r) r) = _
    rw [tls_eq l r, tlK_eq, List.drop_drop]
theorem atK_eq {α : Type} (l : List α) (n : Nat) : atK l n = l[n]? := by
  unfold atK
  rw [litN_eq, litN_eq, tls_eq, dr8_eq, List.drop_drop]
  have e : 8 * Nat.div n 8 + Nat.mod n 8 = n := Nat.div_add_mod n 8
  rw [e, ← List.head?_drop]
  cases l.drop n <;> rfl
noncomputable def infK (P : Program) (t : TypeId) : Option TypeInfo := Option.rec (motive := fun _ => Option TypeInfo) (P.info? t) (fun i => some i) (atK P.types.toList t)
noncomputable def undK (P : Program) (t : TypeId) : Option TypeDesc :=
  match infK P t with
  | some { desc := .named _ u, .. } => (infK P u).map (·.desc)
  | some i => some i.desc
  | none => none
noncomputable def funK (P : Program) (f : Nat) : Option Func := atK P.funcs.toList f
theorem infK_eq (P : Program) (t : TypeId) : infK P t = P.info? t := by
  unfold infK
  cases h : atK P.types.toList t with
  | none => rfl
  | some i =>
    rw [atK_eq] at h
    have h2 : P.types[t]? = some i := by simpa using h
    have h3 : t < P.types.size := (Array.getElem?_eq_some_iff.1 h2).1
    show some i = P.info? t
    unfold Tables.info?
    rw [if_pos h3, h2]
theorem undK_eq (P : Program) (t : TypeId) : undK P t = P.underlying t := by
  unfold undK Program.underlying
  simp only [infK_eq]
  rfl
theorem funK_eq (P : Program) (f : Nat) : funK P f = P.funcs[f]? := by
  unfold funK
  rw [atK_eq]
  simp
--}ATK
noncomputable def aggA (P : Program) (t : TypeId) : Option Bool :=
  match undK P t with
  | some (.struct _) | some (.array _ _) => some true
  | some _ => some false
  | none => none
noncomputable def szA (P : Program) (t : TypeId) : Option Nat := (infK P t).map (·.size)

abbrev KV := AV → AH → R
/-- What an operation does that calls nothing. -/
abbrev OpT := Fr → AH → KV → R

/-- A part: of so many cells (some n), or one cell. -/
noncomputable def partC (n : Nat) (l : List AV) (o : Nat) (k : AV → R) : R := takeK none l o n fun r => k (.agg r)
noncomputable def partS (l : List AV) (o : Nat) (k : AV → R) : R := nthK none l o k
/-- How a part of a type is read. -/
noncomputable def partB (P : Program) (t : TypeId) : Bx (List AV → Nat → (AV → R) → R) :=
  match aggA P t, szA P t with
  | some true, some n => ⟨partC n⟩
  | some false, _ => ⟨partS⟩
  | _, _ => ⟨fun _ _ _ => none⟩

/-- The cells behind a pointer. -/
noncomputable def cellsK (h : AH) (p : AV) (k : OB → R) : R :=
  ifB (Nat.beq p.tag 3) (ifB (Nat.beq p.a 1) (optK none (h.get p.b) fun o => ifB (Nat.beq o.kind 0) (k o) none) none) none

def capU : Nat := 18446744073709551616

noncomputable def cellsOfV (v : AV) : List AV := ifB (Nat.beq v.tag 7) v.l [v]
def oneCellN (v : AV) : Bool := Nat.ble v.tag 6

noncomputable def failB : Bx OpT := ⟨fun _ _ _ => none⟩

noncomputable def moveC (x : Fr → AV) : OpT := fun t h k => k (x t) h
noncomputable def pickC (c x y : Fr → AV) : OpT := fun t h k => ifB (Nat.beq (c t).tag 1) (ifB (Nat.beq (c t).a 1) (k (x t) h) (k (y t) h)) none
noncomputable def allocC (z : List AV) (e : Nat) : OpT := fun _ h k => k (.ptr h.next 0) (h.new (.arr z e))
noncomputable def boxC (x : Fr → AV) (e : Nat) : OpT := fun t h k => ifB (Nat.ble (x t).tag 7) (k (.ptr h.next 0) (h.new (.arr (cellsOfV (x t)) e))) none
noncomputable def loadC (x : Fr → AV) (part : List AV → Nat → (AV → R) → R) : OpT := fun t h k => cellsK h (x t) fun o => part o.cs (x t).c fun v => k v h
noncomputable def storeOk (sz : Nat) (v : AV) (yes no : R) : R := ifB (Nat.beq (cellsOfV v).length sz) (ifB ((cellsOfV v).all oneCellN) yes no) no
noncomputable def storeC (x y : Fr → AV) (sz : Nat) : OpT := fun t h k => storeOk sz (y t) (cellsK h (x t) fun o => setK none o.cs (x t).c (cellsOfV (y t)) fun r => k .undef (h.put (x t).b (some (.arr r o.n)))) none
noncomputable def store1C (x y : Fr → AV) : OpT := fun t h k => ifB (oneCellN (y t)) (cellsK h (x t) fun o => setK none o.cs (x t).c [y t] fun r => k .undef (h.put (x t).b (some (.arr r o.n)))) none
noncomputable def nilC (x : Fr → AV) : OpT := fun t h k => ifB (Nat.beq (x t).tag 3) (ifB (Nat.beq (x t).a 1) (k (x t) h) none) (ifB (Nat.beq (x t).tag 6) (ifB (Nat.beq (x t).a 0) none (k (x t) h)) none)
noncomputable def fieldAddrC (x : Fr → AV) (o : Nat) : OpT := fun t h k => ifB (Nat.beq (x t).tag 3) (ifB (Nat.beq (x t).a 1) (k (.ptr (x t).b ((x t).c + o)) h) none) none
noncomputable def fieldC (x : Fr → AV) (part : List AV → Nat → (AV → R) → R) (o : Nat) : OpT := fun t h k => ifB (Nat.beq (x t).tag 7) (part (x t).l o fun v => k v h) none
noncomputable def indexPtrC (x i : Fr → AV) (s m : Nat) : OpT := fun t h k => ifB (Nat.beq (x t).tag 3) (ifB (Nat.beq (x t).a 1) (ifB (Nat.beq (i t).tag 0) (natK none (i t).i fun n => ifB (Nat.ble (n + 1) m) (k (.ptr (x t).b ((x t).c + n * s)) h) none) none) none) none
noncomputable def indexAddrC (x i : Fr → AV) (s : Nat) : OpT := fun t h k => ifB (Nat.beq (x t).tag 4) (ifB (Nat.beq (x t).a 1) (ifB (Nat.beq (i t).tag 0) (natK none (i t).i fun n => ifB (Nat.ble (n + 1) (x t).d) (k (.ptr (x t).b ((x t).c + n * s)) h) none) none) none) none
noncomputable def sindexC (x i : Fr → AV) : OpT := fun t h k => ifB (Nat.beq (x t).tag 2) (ifB (Nat.beq (i t).tag 0) (natK none (i t).i fun n => snthK none (x t).s n fun b => k (.int 1 b.toNat) h) none) none
noncomputable def extractC (x : Fr → AV) (i : Nat) : OpT := fun t h k => ifB (Nat.beq (x t).tag 8) (nthK none (x t).l i fun v => k v h) none
noncomputable def notC (x : Fr → AV) : OpT := fun t h k => ifB (Nat.beq (x t).tag 1) (k (.bool (Nat.beq (x t).a 0)) h) none
noncomputable def lenC (x : Fr → AV) : OpT := fun t h k => ifB (Nat.beq (x t).tag 4) (k (.int 0 (x t).d) h) none
noncomputable def slenC (x : Fr → AV) : OpT := fun t h k => ifB (Nat.beq (x t).tag 2) (k (.int 0 (x t).s.length) h) none
noncomputable def mlenC (x : Fr → AV) : OpT := fun t h k => ifB (Nat.beq (x t).tag 5) (ifB (Nat.beq (x t).a 0) (k (.int 0 0) h) (optK none (h.get (x t).b) fun o => ifB (Nat.beq o.kind 1) (k (.int 0 o.es.length) h) none)) none

/-- Both are integers of one kind. -/
noncomputable def intsK (x y : AV) (k : R) : R := ifB (Nat.beq x.tag 0) (ifB (Nat.beq y.tag 0) (ifB (Nat.beq x.a y.a) k none) none) none
noncomputable def cmpC (f : Int → Int → Bool) (x y : Fr → AV) : OpT := fun t h k => intsK (x t) (y t) (k (.bool (f (x t).i (y t).i)) h)
noncomputable def arithC (f : Int → Int → Int) (x y : Fr → AV) : OpT := fun t h k => ifB (Nat.beq (x t).a 0) (intsK (x t) (y t) (k (.int 0 (f (x t).i (y t).i)) h)) none
/-- Equal (or not), of one tag: integers, bools, strings; anything with nil. -/
noncomputable def eqI (x y : AV) (k : Bool → R) : R := ifB (Nat.beq x.tag 0) (ifB (Nat.beq y.tag 0) (ifB (Nat.beq x.a y.a) (k (intEq x.i y.i)) none) none) none
noncomputable def eqS (x y : AV) (k : Bool → R) : R := ifB (Nat.beq x.tag 2) (ifB (Nat.beq y.tag 2) (k (strEq x.s y.s)) none) none
noncomputable def eqB (x y : AV) (k : Bool → R) : R := ifB (Nat.beq x.tag 1) (ifB (Nat.beq y.tag 1) (k (Nat.beq x.a y.a)) none) none
noncomputable def eqN (T : Nat) (x y : AV) (k : Bool → R) : R := ifB (Nat.beq x.tag T) (ifB (Nat.beq y.tag T) (ifB (Nat.beq x.a 0) (k (Nat.beq y.a 0)) (ifB (Nat.beq y.a 0) (k false) none)) none) none
noncomputable def eqC (eq : AV → AV → (Bool → R) → R) (x y : Fr → AV) : OpT := fun t h k => eq (x t) (y t) fun b => k (.bool b) h
noncomputable def neC (eq : AV → AV → (Bool → R) → R) (x y : Fr → AV) : OpT := fun t h k => eq (x t) (y t) fun b => k (.bool (ifB b false true)) h
noncomputable def eqOf (d : TypeDesc) : Option (Bx (AV → AV → (Bool → R) → R)) :=
  match d with
  | .int _ => some ⟨eqI⟩ | .string => some ⟨eqS⟩ | .bool => some ⟨eqB⟩ | .pointer _ => some ⟨eqN 3⟩ | .slice _ => some ⟨eqN 4⟩ | .map _ _ => some ⟨eqN 5⟩ | .func .. => some ⟨eqN 6⟩
  | _ => none
noncomputable def addStrC (x y : Fr → AV) : OpT := fun t h k => ifB (Nat.beq (x t).tag 2) (ifB (Nat.beq (y t).tag 2) (ifB (Nat.ble ((x t).s.length + (y t).s.length) 1000000) (k (.str ((x t).s ++ (y t).s)) h) none) none) none

/-- Whatever else looks at no memory: as the model has it. -/
noncomputable def pureC (P : Program) (o : Oper) : OpT := fun t h k =>
  ifB (o.op.operands.toList.all fun x => (toV ((evB x).f t)).isSome) (optK none (semEv P (execOp (fun x => (toV ((evB x).f t)).getD undef) o)) fun
    | .value v => ifB ((toV (ofV v)).isSome) (k (ofV v) h) none
    | _ => none) none

noncomputable def fillB (place : Nat → Option (Nat × Nat)) : List (Nat × Operand) → Bx (Fr → List AV → (List AV → R) → R)
  | [] => ⟨fun _ cs k => k cs⟩
  | (i, x) :: rest => match place i with
    | some (off, 1) => ⟨fun t cs k => ifB (oneCellN ((evB x).f t)) (setK none cs off [(evB x).f t] fun r => (fillB place rest).f t r k)
        (ifB (Nat.beq ((evB x).f t).tag 7) (ifB (Nat.beq ((evB x).f t).l.length 1) (setK none cs off ((evB x).f t).l fun r => (fillB place rest).f t r k) none) none)⟩
    | some (off, sz + 2) => ⟨fun t cs k => ifB (Nat.beq ((evB x).f t).tag 7) (ifB (Nat.beq ((evB x).f t).l.length (sz + 2)) (setK none cs off ((evB x).f t).l fun r => (fillB place rest).f t r k) none) none⟩
    | _ => ⟨fun _ _ _ => none⟩

noncomputable def zeroA (P : Program) (t : TypeId) : Option (List AV) :=
  match infK P t with
  | some i => match i.zero with
    | some z => some (z.cells.toList.map ofV1)
    | none => none
  | none => none
noncomputable def zeroVA (P : Program) (t : TypeId) : Option AV :=
  match infK P t with
  | some i => i.zero.map ofV
  | none => none
/-- Rows of the type: its zero value has as many cells as it says, and is not too large. -/
noncomputable def okRow (P : Program) (e : TypeId) : Bool :=
  match infK P e with
  | some i => match i.zero with
    | some z => Nat.beq z.cells.size i.size && Nat.ble i.size 100 && Nat.ble i.bytes 1000 && Nat.ble 1 i.size
    | none => false
  | none => false
def repA (z : List AV) : Nat → List AV
  | 0 => []
  | n + 1 => z ++ repA z n

noncomputable def buildC (z : List AV) (fill : Fr → List AV → (List AV → R) → R) : OpT := fun t h k => fill t z fun cs => k (.agg cs) h
noncomputable def buildSliceC (z : List AV) (e n : Nat) (fill : Fr → List AV → (List AV → R) → R) : OpT := fun t h k => fill t z fun cs => k (.slc h.next 0 n n) (h.new (.arr cs e))

/-- The cells of a slice. -/
noncomputable def rowK (h : AH) (e s : Nat) (v : AV) (k : List AV → R) : R :=
  ifB (Nat.beq v.tag 4) (ifB (Nat.beq v.d 0) (k []) (ifB (Nat.beq v.a 1) (optK none (h.get v.b) fun o => ifB (Nat.beq o.kind 0) (ifB (Nat.beq o.n e) (takeK none o.cs v.c (v.d * s) k) none) none) none)) none
noncomputable def appendK (h : AH) (e s : Nat) (x : AV) (n : Nat) (new : List AV) (k : KV) : R :=
  ifB (Nat.beq n 0) (k x h) (ifB (Nat.ble (x.d + n) 1000000) (ifB (Nat.beq x.a 0) (k (.slc h.next 0 n capU) (h.new (.arr new e)))
    (rowK h e s x fun old => ifB (Nat.ble (x.d + n) x.e)
      (optK none (h.get x.b) fun o => ifB (Nat.beq o.kind 0) (ifB (Nat.beq o.n e) (k (.slc h.next 0 (x.d + n) x.e) ((h.put x.b none).new (.arr (old ++ new) e))) none) none)
      (k (.slc h.next 0 (x.d + n) capU) (h.new (.arr (old ++ new) e))))) none)
noncomputable def appendC (x y : Fr → AV) (e s : Nat) : OpT := fun t h k => ifB (Nat.beq (x t).tag 4) (rowK h e s (y t) fun new => ifB (new.all oneCellN) (appendK h e s (x t) (y t).d new k) none) none

noncomputable def evsB : List Operand → Bx (Fr → List AV)
  | [] => ⟨fun _ => []⟩
  | x :: l => ⟨fun t => (evB x).f t :: (evsB l).f t⟩

/-- The slice's block holds such elements (or it is not asked: l = 0). -/
noncomputable def isRow (h : AH) (e l b : Nat) (k : R) : R := ifB (Nat.beq l 0) k (optK none (h.get b) fun o => ifB (Nat.beq o.kind 0) (ifB (Nat.beq o.n e) k none) none)
/-- The bounds of a slice: the first, the last, the capacity's. -/
noncomputable def boundB (x : Option Operand) : Bx (Fr → Nat → (Nat → R) → R) :=
  match x with
  | none => ⟨fun _ d k => k d⟩
  | some x => ⟨fun t _ k => ifB (Nat.beq ((evB x).f t).tag 0) (natK none ((evB x).f t).i k) none⟩
noncomputable def sliceC (x : Fr → AV) (e s : Nat) (lo hi mx : Fr → Nat → (Nat → R) → R) (full : Bool) : OpT := fun t h k =>
  ifB (Nat.beq (x t).tag 4) (lo t 0 fun l => hi t (x t).d fun n => mx t (x t).d fun m =>
    ifB (Nat.ble l n) (ifB (Nat.ble n m) (ifB (Nat.ble m (x t).d) (ifB (Nat.beq (x t).a 0) (k .snil h)
      (isRow h e l (x t).b (k (.slc (x t).b ((x t).c + l * s) (n - l) (ifB full (m - l) (ifB (Nat.beq (x t).e capU) capU ((x t).e - l)))) h))) none) none) none) none
noncomputable def sstrC (x : Fr → AV) (lo hi : Fr → Nat → (Nat → R) → R) : OpT := fun t h k =>
  ifB (Nat.beq (x t).tag 2) (lo t 0 fun l => hi t (x t).s.length fun n => ifB (Nat.ble l n) (ifB (Nat.ble n (x t).s.length) (k (.str (((x t).s.drop l).take (n - l))) h) none) none) none

noncomputable def keyEq (x y : AV) (k : Bool → R) : R := ifB (Nat.beq x.tag y.tag) (ifB (Nat.beq x.a y.a) (ifB (Nat.beq x.tag 0) (k (intEq x.i y.i)) (ifB (Nat.beq x.tag 2) (k (strEq x.s y.s)) none)) (ifB (Nat.beq x.tag 1) (k false) none)) none
/-- The tag of a type's keys. -/
def keyTag (d : Option TypeDesc) : Option Nat :=
  match d with
  | some (.int _) => some 0
  | some .string => some 2
  | _ => none
--{REC2
noncomputable def findK (key : AV) (es : List ME) : R → (AV → R) → R :=
  List.rec (motive := fun _ => R → (AV → R) → R) (fun no _ => no) (fun e _ ih no yes => keyEq key e.key fun b => ifB b (yes e.val) (ih no yes)) es
noncomputable def updK (key val : AV) (es : List ME) : (List ME → R) → R :=
  List.rec (motive := fun _ => (List ME → R) → R) (fun _ => none) (fun e es ih k => keyEq key e.key fun b => ifB b (k (⟨key, val, e.born⟩ :: es)) (ih fun r => k (e :: r))) es
/-- The entry of a stamp. -/
noncomputable def bornK (b : Nat) (es : List ME) : (ME → R) → R :=
  List.rec (motive := fun _ => (ME → R) → R) (fun _ => none) (fun e _ ih k => ifB (Nat.beq e.born b) (k e) (ih k)) es
/-- The entries that are not seen: none; the only one. -/
noncomputable def leftK (seen : List Nat) (es : List ME) : (none_ : R) → (ME → R) → R :=
  List.rec (motive := fun _ => R → (ME → R) → R) (fun no _ => no) (fun e es ih no one => ifB (seen.elem e.born) (ih no one) (ifB (es.all fun e => seen.elem e.born) (one e) none)) es
--}REC2
noncomputable def lookupC (T : Nat) (x y : Fr → AV) (z : AV) (ok : Bool) : OpT := fun t h k =>
  ifB (Nat.beq (x t).tag 5) (ifB (Nat.beq (y t).tag T)
    (ifB (Nat.beq (x t).a 0) (k (ifB ok (.tup [z, .bool false]) z) h)
      (optK none (h.get (x t).b) fun o => ifB (Nat.beq o.kind 1) (findK (y t) o.es (k (ifB ok (.tup [z, .bool false]) z) h) fun v => k (ifB ok (.tup [v, .bool true]) v) h)
        (ifB (Nat.beq o.kind 2) (findK (y t) o.es (k (ifB ok (.tup [z, .bool false]) z) h) fun v => k (ifB ok (.tup [v, .bool true]) v) h) none))) none) none
noncomputable def updateC (T : Nat) (x y z : Fr → AV) : OpT := fun t h k =>
  ifB (Nat.beq (x t).tag 5) (ifB (Nat.beq (x t).a 1) (ifB (Nat.beq (y t).tag T) (optK none (h.get (x t).b) fun o => ifB (Nat.beq o.kind 1)
    (findK (y t) o.es (k .undef (h.put (x t).b (some (.map (o.es ++ [⟨y t, z t, o.n⟩]) (o.n + 1))))) fun _ => updK (y t) (z t) o.es fun es => k .undef (h.put (x t).b (some (.map es o.n)))) none) none) none) none
noncomputable def rangeC (x : Fr → AV) : OpT := fun t h k =>
  ifB (Nat.beq (x t).tag 5) (ifB (Nat.beq (x t).a 1) (optK none (h.get (x t).b) fun o => ifB (Nat.beq o.kind 1) (k (.ptr h.next 0) (h.new (.iter (x t).b o.n []))) none) none) none
noncomputable def iterK (h : AH) (p : AV) (k : OB → OB → R) : R :=
  ifB (Nat.beq p.tag 3) (ifB (Nat.beq p.a 1) (ifB (Nat.beq p.c 0) (optK none (h.get p.b) fun r => ifB (Nat.beq r.kind 3) (optK none (h.get r.n) fun m => ifB (Nat.beq m.kind 1) (ifB (Nat.beq m.n r.m) (k r m) none) none) none) none) none) none
noncomputable def nextC (x : Fr → AV) : OpT := fun t h k => iterK h (x t) fun r m =>
  leftK r.ns m.es (k (.tup [.bool false]) h) fun e => k (.tup [.bool true, e.key, e.val]) (h.put (x t).b (some (.iter r.n r.m (e.born :: r.ns))))
noncomputable def entryC (x : Fr → AV) : OpT := fun t h k => iterK h (x t) fun r m => match r.ns with
  | b :: _ => bornK b m.es fun e => k (.tup [e.key, e.val]) h
  | [] => none

noncomputable def oB0 (P : Program) (e : TypeId) : Bx OpT :=
  match zeroA P e, szA P e with
  | some z, some _ => ⟨allocC z e⟩
  | _, _ => failB
noncomputable def oB1 (P : Program) (e : TypeId) (x : Operand) : Bx OpT :=
  match szA P e with
  | some _ => ⟨boxC (evB x).f e⟩
  | none => failB
noncomputable def oB2 (P : Program) (ty : TypeId) (parts : Array (Nat × Operand)) : Bx OpT :=
  match zeroA P ty, undK P ty with
  | some z, some (.struct fs) => match fs.toList.all fun f => (szA P f.type).isSome with
    | false => failB
    | true => ⟨buildC z (fillB (fun i => match fs[i]? with | some f => (szA P f.type).map fun s => (f.offset, s) | none => none) parts.toList).f⟩
  | some z, some (.array _ e) => match szA P e with
    | some s => ⟨buildC z (fillB (fun i => some (i * s, s)) parts.toList).f⟩
    | none => failB
  | _, _ => failB
noncomputable def oB3 (P : Program) (ty : TypeId) (len : Nat) (parts : Array (Nat × Operand)) : Bx OpT :=
  match undK P ty with
  | some (.slice e) => match zeroA P e, szA P e, okRow P e && Nat.ble len 100000 with
    | some z, some s, true => ⟨buildSliceC (repA z len) e len (fillB (fun i => some (i * s, s)) parts.toList).f⟩
    | _, _, _ => failB
  | _ => failB
noncomputable def oB4 (P : Program) (ty : TypeId) (a : Operand) (x : Operand) : Bx OpT :=
  match aggA P ty, szA P ty with
  | some false, some 1 => ⟨store1C (evB a).f (evB x).f⟩
  | _, some s => ⟨storeC (evB a).f (evB x).f s⟩
  | _, none => failB
noncomputable def oB5 (P : Program) (o : Oper) (op : BinOp) (ty : TypeId) (x : Operand) (y : Operand) : Bx OpT :=
  match op, undK P ty with
  | .add, some (.int .i64) => ⟨arithC intAdd (evB x).f (evB y).f⟩
  | .sub, some (.int .i64) => ⟨arithC intSub (evB x).f (evB y).f⟩
  | .lss, some (.int _) => ⟨cmpC intLt (evB x).f (evB y).f⟩
  | .gtr, some (.int _) => ⟨cmpC (fun a b => intLt b a) (evB x).f (evB y).f⟩
  | .leq, some (.int _) => ⟨cmpC (fun a b => ifB (intLt b a) false true) (evB x).f (evB y).f⟩
  | .geq, some (.int _) => ⟨cmpC (fun a b => ifB (intLt a b) false true) (evB x).f (evB y).f⟩
  | .add, some .string => ⟨addStrC (evB x).f (evB y).f⟩
  | .eql, some d => match eqOf d with
    | some f => ⟨eqC f.f (evB x).f (evB y).f⟩
    | none => ⟨pureC P o⟩
  | .neq, some d => match eqOf d with
    | some f => ⟨neC f.f (evB x).f (evB y).f⟩
    | none => ⟨pureC P o⟩
  | _, _ => ⟨pureC P o⟩
noncomputable def oB6 (P : Program) (o : Oper) (src : TypeId) (dst : TypeId) (x : Operand) : Bx OpT :=
  match undK P src, undK P dst with
  | some .string, some (.slice e) => match undK P e with
    | some (.int .u8) => match szA P e with
      | some 1 => ⟨fun t h k => ifB (Nat.beq ((evB x).f t).tag 2) (ifB (Nat.ble ((evB x).f t).s.length 1000000) (k (.slc h.next 0 ((evB x).f t).s.length capU) (h.new (.arr (((evB x).f t).s.map fun b => .int 1 b.toNat) e))) none) none⟩
      | _ => failB
    | _ => failB
  | some (.slice _), some (.slice e) => match undK P e with
    | some (.int .u8) => match Nat.beq src dst with
      | true => ⟨fun t h k => ifB (Nat.beq ((evB x).f t).tag 4) (ifB (Nat.beq ((evB x).f t).a 1) (optK none (h.get ((evB x).f t).b) fun o => ifB (Nat.beq o.kind 0) (k ((evB x).f t) h) none) none) none⟩
      | false => failB
    | _ => failB
  | _, _ => ⟨pureC P o⟩
noncomputable def oB7 (P : Program) (ty : TypeId) (x : Operand) : Bx OpT :=
  match undK P ty with
  | some (.map _ _) => ⟨fun t h k => ifB (Nat.beq ((evB x).f t).tag 0) (k (.map h.next) (h.new (.map [] 0))) none⟩
  | _ => failB
noncomputable def oB8 (P : Program) (ty : TypeId) (l : Operand) (c : Operand) : Bx OpT :=
  match undK P ty with
  | some (.slice e) => match zeroA P e, okRow P e with
    | some z, true => ⟨fun t h k => ifB (Nat.beq ((evB l).f t).tag 0) (ifB (Nat.beq ((evB c).f t).tag 0) (natK none ((evB l).f t).i fun n => natK none ((evB c).f t).i fun m => ifB (Nat.ble n m) (ifB (Nat.ble m 1000000) (k (.slc h.next 0 n m) (h.new (.arr (repA z m) e))) none) none) none) none⟩
    | _, _ => failB
  | _ => failB
noncomputable def oB9 (P : Program) (ty : TypeId) (x : Operand) (lo : Option Operand) (hi : Option Operand) (mx : Option Operand) : Bx OpT :=
  match undK P ty with
  | some (.slice e) => match szA P e with
    | some s => match mx.isNone || hi.isSome with
      | true => ⟨sliceC (evB x).f e s (boundB lo).f (boundB hi).f (boundB mx).f mx.isSome⟩
      | false => failB
    | none => failB
  | some .string => match mx with
    | none => ⟨sstrC (evB x).f (boundB lo).f (boundB hi).f⟩
    | some _ => failB
  | _ => failB
noncomputable def oB10 (P : Program) (s : TypeId) (x : Operand) (f : Nat) : Bx OpT :=
  match undK P s with
  | some (.struct fs) => match fs[f]? with
    | some fd => match szA P fd.type with
      | some (_ + 1) => ⟨fieldAddrC (evB x).f fd.offset⟩
      | _ => failB
    | none => failB
  | _ => failB
noncomputable def oB11 (P : Program) (s : TypeId) (x : Operand) (f : Nat) : Bx OpT :=
  match undK P s with
  | some (.struct fs) => match fs[f]? with
    | some fd => ⟨fieldC (evB x).f (partB P fd.type).f fd.offset⟩
    | none => failB
  | _ => failB
noncomputable def oB12 (P : Program) (ty : TypeId) (x : Operand) (ix : Operand) : Bx OpT :=
  match undK P ty with
  | some (.array m e) => match szA P e with
    | some s => ⟨indexPtrC (evB x).f (evB ix).f s m⟩
    | none => failB
  | some (.slice e) => match szA P e with
    | some s => ⟨indexAddrC (evB x).f (evB ix).f s⟩
    | none => failB
  | _ => failB
noncomputable def oB13 (P : Program) (o : Oper) (ty : TypeId) (x : Operand) (ix : Operand) : Bx OpT :=
  match undK P ty with
  | some .string => ⟨sindexC (evB x).f (evB ix).f⟩
  | _ => ⟨pureC P o⟩
noncomputable def oB14 (P : Program) (ty : TypeId) (x : Operand) (k : Operand) (ok : Bool) : Bx OpT :=
  match undK P ty with
  | some (.map kt e) => match zeroVA P e, keyTag (undK P kt) with
    | some z, some T => ⟨lookupC T (evB x).f (evB k).f z ok⟩
    | _, _ => failB
  | _ => failB
noncomputable def oB15 (P : Program) (ty : TypeId) (m : Operand) (k : Operand) (x : Operand) : Bx OpT :=
  match undK P ty with
  | some (.map kt _) => match keyTag (undK P kt) with
    | some T => ⟨updateC T (evB m).f (evB k).f (evB x).f⟩
    | none => failB
  | _ => failB
noncomputable def oB16 (P : Program) (ty : TypeId) (x : Operand) : Bx OpT :=
  match undK P ty with
  | some (.map _ _) => ⟨rangeC (evB x).f⟩
  | _ => failB
noncomputable def oB17 (P : Program) (args : Array Operand) (argTypes : Array TypeId) : Bx OpT :=
  match args.toList, (argTypes[0]?).bind (undK P) with
  | [x], some (.slice _) => ⟨lenC (evB x).f⟩
  | [x], some .string => ⟨slenC (evB x).f⟩
  | [x], some (.map _ _) => ⟨mlenC (evB x).f⟩
  | _, _ => failB
noncomputable def oB18 (P : Program) (args : Array Operand) (argTypes : Array TypeId) : Bx OpT :=
  match args.toList, argTypes.toList with
  | [x, y], [tx, ty] => match undK P tx, undK P ty with
   | some (.slice e), some (.slice e') => match Nat.beq e e', szA P e with
    | true, some s => match okRow P e with
      | true => ⟨appendC (evB x).f (evB y).f e s⟩
      | false => failB
    | _, _ => failB
   | _, _ => failB
  | _, _ => failB
/-- An operation that calls nothing, as a function of the frame. -/
noncomputable def opB (P : Program) (o : Oper) : Bx OpT :=
  match o.op with
  | .move x | .assign x => ⟨moveC (evB x).f⟩
  | .pick c a b => ⟨pickC (evB c).f (evB a).f (evB b).f⟩
  | .alloc e => oB0 P e
  | .box e x => oB1 P e x
  | .build ty parts => oB2 P ty parts
  | .buildSlice ty len parts => oB3 P ty len parts
  | .load ty a => ⟨loadC (evB a).f (partB P ty).f⟩
  | .store ty a x => oB4 P ty a x
  | .nilCheck x => ⟨nilC (evB x).f⟩
  | .binOp op ty x y _ => oB5 P o op ty x y
  | .unOp .not _ x => ⟨notC (evB x).f⟩
  | .convert src dst x => oB6 P o src dst x
  | .makeFunc (.func f) first captured => ⟨fun t h k => k (.fn f first.size ((evsB (first.toList ++ captured.toList)).f t)) h⟩
  | .makeMap _ none => ⟨fun _ h k => k (.map h.next) (h.new (.map [] 0))⟩
  | .makeMap ty (some x) => oB7 P ty x
  | .makeSlice ty l c => oB8 P ty l c
  | .slice ty x lo hi mx => oB9 P ty x lo hi mx
  | .fieldAddr s x f => oB10 P s x f
  | .field s x f => oB11 P s x f
  | .indexAddr ty x ix => oB12 P ty x ix
  | .index ty x ix => oB13 P o ty x ix
  | .lookup ty x k ok => oB14 P ty x k ok
  | .mapUpdate ty m k x | .insert ty m k x => oB15 P ty m k x
  | .range ty x => oB16 P ty x
  | .next it false => ⟨nextC (evB it).f⟩
  | .entry it => ⟨entryC (evB it).f⟩
  | .extract x i => ⟨extractC (evB x).f i⟩
  | .call { callee := .builtin .len, args, argTypes } => oB17 P args argTypes
  | .call { callee := .builtin .append, args, argTypes } => oB18 P args argTypes
  | .call { callee := .builtin _, .. } | .unOp .. => ⟨pureC P o⟩
  | _ => failB

/-- How calls are served: of a function, by its number; of a loop's yield. -/
structure CallT where
  st : Nat → List AV → AH → KV → R
  yd : Nat → List AV → AH → KV → R

/-- Numbers in a tree: so that a number that was reckoned becomes one that is written. -/
inductive LT where
  | leaf (n : Nat)
  | node (l r : LT)
def litT : Nat → Nat → Nat → LT
  | 0, a, _ => .leaf a
  | d + 1, a, s => .node (litT d a (2 * s)) (litT d (a + s) (2 * s))
noncomputable def litK (t : LT) : Nat → (Nat → R) → R :=
  LT.rec (motive := fun _ => Nat → (Nat → R) → R) (fun m _ k => k m) (fun _ _ ihl ihr n k => ifB (Nat.beq (n % 2) 0) (ihl (n / 2) k) (ihr (n / 2) k)) t
/-- What code does: it ends (0: behind the code, with 0; 1: at an exit; 2: at a return). -/
abbrev KC := Nat → Nat → Fr → AH → R
abbrev CodeT := CallT → Fr → AH → KC → R

def putF (n : Nat) (d : Option Tmp) : Bx (Fr → AV → Fr) :=
  match d with
  | none => ⟨fun t _ => t⟩
  | some d => match Nat.blt d n with
    | true => setF d
    | false => ⟨fun t _ => t⟩

noncomputable def callS (f : Nat) (xs : Fr → List AV) (put : Fr → AV → Fr) (rest : CodeT) : CodeT := fun call t h k => call.st f (xs t) h fun v h => rest call (put t v) h k
/-- A call of a value. -/
noncomputable def valK (call : CallT) (f : AV) (xs : List AV) (h : AH) (k : KV) : R :=
  ifB (Nat.beq f.tag 6) (ifB (Nat.beq f.a 1) (ifB (Nat.ble f.b 1023) (litK (litT 10 0 1) f.b fun m => ifB (Nat.beq f.c 0) (call.st m (xs ++ f.l) h k) (call.st m (f.l.take f.c ++ xs ++ f.l.drop f.c) h k)) none) (ifB (Nat.beq f.a 2) (call.yd f.b xs h k) none)) none
noncomputable def callD (f : Fr → AV) (xs : Fr → List AV) (put : Fr → AV → Fr) (rest : CodeT) : CodeT := fun call t h k => valK call (f t) (xs t) h fun v h => rest call (put t v) h k
noncomputable def thenC (op : OpT) (put : Fr → AV → Fr) (rest : CodeT) : CodeT := fun call t h k => op t h fun v h => rest call (put t v) h k
noncomputable def guardC (g : Fr → AV) (want : Nat) (yes no : CodeT) : CodeT := fun call t h k => ifB (Nat.beq (g t).tag 1) (ifB (Nat.beq (g t).a want) (yes call t h k) (no call t h k)) (ifB (Nat.beq (g t).tag 8) (no call t h k) none)
noncomputable def skipC (put : Fr → AV → Fr) (rest : CodeT) : CodeT := fun call t h k => rest call (put t .undef) h k

/-- One operation, unguarded. -/
noncomputable def oneB (P : Program) (n : Nat) (o : Oper) (rest : Bx CodeT) : Bx CodeT :=
  match o.op with
  | .call { callee := .value (.func f), args, .. } => ⟨callS f (evsB args.toList).f (putF n o.dst).f rest.f⟩
  | .call { callee := .value f, args, .. } => ⟨callD (evB f).f (evsB args.toList).f (putF n o.dst).f rest.f⟩
  | _ => ⟨thenC (opB P o).f (putF n o.dst).f rest.f⟩
noncomputable def stepB (P : Program) (n : Nat) (ops : Array Oper) (o : Oper) (rest : Bx CodeT) : Bx CodeT :=
  match o.guard with
  | none => oneB P n o rest
  | some (j, want) => match (ops[j]?).bind (·.dst) with
    | some d => ⟨guardC (evB (.tmp d)).f want.toNat (oneB P n o rest).f (skipC (putF n o.dst).f rest.f)⟩
    | none => ⟨skipC (putF n o.dst).f rest.f⟩
noncomputable def opsB (P : Program) (n : Nat) (ops : Array Oper) : List Oper → Bx CodeT
  | [] => ⟨fun _ t h k => k 0 0 t h⟩
  | o :: l => stepB P n ops o (opsB P n ops l)

/-- What an operation may do: 0 yield a value, 1 make an object, 2 more. -/
def clsO : Op → Nat
  | .move _ | .pick .. | .load .. | .nilCheck _ | .binOp .. | .unOp .. | .makeFunc .. | .slice .. | .fieldAddr .. | .field .. | .indexAddr .. | .index .. | .lookup .. | .entry _ | .extract .. | .build .. => 0
  | .alloc _ | .box .. | .buildSlice .. | .makeMap .. | .makeSlice .. => 1
  | .call { callee := .builtin .append, .. } => 2
  | .call { callee := .builtin _, .. } => 0
  | _ => 2
/-- An operation of a region that draws its order: its number, what must lie ahead of it. -/
structure PS where
  i : Nat
  o : Oper
  m : Nat
def maskE (acc : List Nat) : List Edge → Nat
  | [] => 0
  | e :: es => match Region.binds .any e with
    | true => 2 ^ e.on ||| (acc.getD e.on 0 ||| maskE acc es)
    | false => maskE acc es
def itemsGo : Nat → List Nat → List Oper → List PS
  | _, _, [] => []
  | i, acc, o :: l => ⟨i, o, maskE acc o.after.toList⟩ :: itemsGo (i + 1) (acc ++ [maskE acc o.after.toList]) l
def tmpsOf (l : List Operand) : List Nat := l.filterMap fun x => match x with | .tmp t => some t | _ => none
/-- The temporaries that an operation looks at. -/
def seenBy (ops : Array Oper) (o : Oper) : List Nat :=
  (match o.guard with | some (j, _) => ((ops[j]?).bind (·.dst)).toList | none => []) ++ tmpsOf o.op.operands.toList
def subM (m c : Nat) : Bool := Nat.beq (m &&& c) m
def pickP (c : Nat) : List PS → Option PS
  | [] => none
  | p :: l => match Nat.blt (clsO p.o.op) 2 && subM p.m c with
    | true => some p
    | false => pickP c l
def planGo : Nat → Nat → List PS → List PS
  | 0, _, _ => []
  | n + 1, c, l => match pickP c l with
    | some p => p :: planGo n (c ||| 2 ^ p.i) (l.filter fun q => !Nat.beq q.i p.i)
    | none => match l with
      | [] => []
      | p :: l => p :: planGo n (c ||| 2 ^ p.i) l
/-- Whether two values are one (cells within cells, three deep). -/
noncomputable def avEqB (x y : AV) (l : Bool) : Bool := ifB (Nat.beq x.tag y.tag) (ifB (Nat.beq x.a y.a) (ifB (Nat.beq x.b y.b) (ifB (Nat.beq x.c y.c) (ifB (Nat.beq x.d y.d) (ifB (Nat.beq x.e y.e) (ifB (intEq x.i y.i) (ifB (strEq x.s y.s) l false) false) false) false) false) false) false) false
noncomputable def avEq1 (x y : AV) : Bool := avEqB x y (List.casesOn x.l (List.casesOn y.l true fun _ _ => false) fun _ _ => false)
noncomputable def avsEq (eq : AV → AV → Bool) (l : List AV) : List AV → Bool :=
  List.rec (motive := fun _ => List AV → Bool) (fun m => List.casesOn m true fun _ _ => false) (fun a _ ih m => List.casesOn m false fun b bs => ifB (eq a b) (ih bs) false) l
noncomputable def avEq2 (x y : AV) : Bool := avEqB x y (avsEq avEq1 x.l y.l)
noncomputable def avEq3 (x y : AV) : Bool := avEqB x y (avsEq avEq2 x.l y.l)
noncomputable def avEq (x y : AV) : Bool := avEqB x y (avsEq avEq3 x.l y.l)

/-- An operation with its guard. -/
noncomputable def guardO (P : Program) (ops : Array Oper) (o : Oper) : Bx OpT :=
  match o.guard with
  | none => opB P o
  | some (j, want) => match (ops[j]?).bind (·.dst) with
    | some d => ⟨fun t h k => ifB (Nat.beq ((evB (.tmp d)).f t).tag 1) (ifB (Nat.beq ((evB (.tmp d)).f t).a want.toNat) ((opB P o).f t h k) (k .undef h)) (ifB (Nat.beq ((evB (.tmp d)).f t).tag 8) (k .undef h) none)⟩
    | none => ⟨fun _ h k => k .undef h⟩
noncomputable def softC (f : OpT) (put : Fr → AV → Fr) (rest : CodeT) : CodeT := fun call t h k => optK none (f t h fun v h => some (.val v h)) fun p => RV.rec (motive := fun _ => R) none (fun v h => rest call (put t v) h k) p
noncomputable def plainC (f : OpT) (put : Fr → AV → Fr) (rest : CodeT) : CodeT := fun call t h k => optK none (f t h fun v h => some (.val v h)) fun p => RV.rec (motive := fun _ => R) none (fun v _ => rest call (put t v) h k) p
/-- What was reckoned is reckoned again. -/
noncomputable def againC (f : OpT) (eq : Fr → AV → Bool) (rest : CodeT) : CodeT := fun call t h k => optK none (f t h fun v h => some (.val v h)) fun p => RV.rec (motive := fun _ => R) none (fun v _ => ifB (eq t v) (rest call t h k) none) p
noncomputable def eqT (d : Option Tmp) : Bx (Fr → AV → Bool) :=
  match d with
  | none => ⟨fun _ _ => true⟩
  | some d => ⟨fun t v => avEq v ((evB (.tmp d)).f t)⟩
noncomputable def againB (P : Program) (ops : Array Oper) (rest : Bx CodeT) : List PS → Bx CodeT
  | [] => rest
  | p :: l => ⟨againC (guardO P ops p.o).f (eqT p.o.dst).f (againB P ops rest l).f⟩
noncomputable def planB (P : Program) (n : Nat) (ops : Array Oper) : List PS → List PS → Bx CodeT
  | _, [] => ⟨fun _ t h k => k 0 0 t h⟩
  | done, p :: l => match clsO p.o.op with
    | 0 => ⟨plainC (guardO P ops p.o).f (putF n p.o.dst).f (planB P n ops (p :: done) l).f⟩
    | 1 => ⟨softC (guardO P ops p.o).f (putF n p.o.dst).f (planB P n ops done l).f⟩
    | _ => stepB P n ops p.o (againB P ops (planB P n ops done l) (done.filter fun q => !Nat.testBit p.m q.i))
def namesT (ops : Array Oper) (d : Option Tmp) (q : PS) : Bool :=
  match d with
  | none => false
  | some d => q.o.dst == some d || (seenBy ops q.o).elem d
def okP (ops : Array Oper) (n : Nat) (all : List PS) : Nat → List PS → Bool
  | c, [] => Nat.beq c (2 ^ ops.size - 1)
  | c, p :: l => subM p.m c && (!Nat.testBit c p.i && ((match p.o.dst with | some d => Nat.blt d n | none => true) && ((match Nat.blt (clsO p.o.op) 2 with
    | true => !(match p.o.dst with | some d => (seenBy ops p.o).elem d | none => false) && all.all fun q => Nat.beq q.i p.i || (!namesT ops p.o.dst q || Nat.testBit q.m p.i)
    | false => (l.all fun q => Nat.testBit q.m p.i) && all.all fun q => Nat.beq q.i p.i || (!namesT ops p.o.dst q || (Nat.testBit q.m p.i || Nat.testBit p.m q.i))) && okP ops n all (c ||| 2 ^ p.i) l)))
--{PLANF
/-- An operation of a drawn region, in written numbers: its place, what lies ahead of it, the temporaries that it names. -/
structure QI where
  i : Nat
  m : Nat
  nm : Nat
noncomputable def bitN (m i : Nat) : Nat := Nat.land 1 (Nat.shiftRight m i)
noncomputable def maskL (l : List Nat) : Nat := List.rec (motive := fun _ => Nat) 0 (fun a _ r => Nat.lor (Nat.pow 2 a) r) l
noncomputable def nmOf (ops : Array Oper) (q : PS) : Nat := maskL (q.o.dst.toList ++ seenBy ops q.o)
noncomputable def cmpQ (ops : Array Oper) (its : List PS) : (List QI → Bool) → Bool :=
  List.rec (motive := fun _ => (List QI → Bool) → Bool) (fun k => k []) (fun p _ ih k => litN p.i fun i => litN p.m fun m => litN (nmOf ops p) fun nm => ih fun l => k (⟨i, m, nm⟩ :: l)) its
noncomputable def allS (d pi : Nat) (qs : List QI) : Bool :=
  List.rec (motive := fun _ => Bool) true (fun q _ ih => bitK (bitN q.nm d) ih (bitK (bitN q.m pi) (ifB (Nat.beq q.i pi) ih false) ih)) qs
noncomputable def allH (d pi pm : Nat) (qs : List QI) : Bool :=
  List.rec (motive := fun _ => Bool) true (fun q _ ih => bitK (bitN q.nm d) ih (bitK (bitN q.m pi) (bitK (bitN pm q.i) (ifB (Nat.beq q.i pi) ih false) ih) ih)) qs
noncomputable def laterH (pi : Nat) (l : List PS) : Bool :=
  List.rec (motive := fun _ => Bool) true (fun q _ ih => bitK (bitN q.m pi) false ih) l
noncomputable def okQ1 (ops : Array Oper) (n : Nat) (qs : List QI) (p : PS) (l : List PS) (pi pm : Nat) (next : Bool) : Bool :=
  Option.rec (motive := fun _ => Bool) (ifB (Nat.blt (clsO p.o.op) 2) next (ifB (laterH pi l) next false))
    (fun d => litN d fun d => ifB (Nat.blt d n) (ifB (Nat.blt (clsO p.o.op) 2) (ifB ((seenBy ops p.o).elem d) false (ifB (allS d pi qs) next false)) (ifB (laterH pi l) (ifB (allH d pi pm qs) next false) false)) false) p.o.dst
noncomputable def okQ (ops : Array Oper) (n : Nat) (qs : List QI) (l : List PS) : Nat → Bool :=
  List.rec (motive := fun _ => Nat → Bool) (fun c => Nat.beq c (2 ^ ops.size - 1)) (fun p l ih c => litN p.i fun pi => litN p.m fun pm =>
    ifB (Nat.beq (Nat.land pm c) pm) (bitK (bitN c pi) (okQ1 ops n qs p l pi pm (litN (Nat.lor c (Nat.pow 2 pi)) fun c => ih c)) false) false) l
/-- The plan's test, quick. -/
noncomputable def okF (ops : Array Oper) (n : Nat) (all : List PS) (l : List PS) : Bool := cmpQ ops all fun qs => okQ ops n qs l 0
structure PQ where
  p : PS
  s : Nat
  m : Nat
  b : Nat
noncomputable def softN (p : PS) : Nat := ifB (Nat.blt (clsO p.o.op) 2) 1 0
noncomputable def cmpP (its : List PS) : (List PQ → List PS) → List PS :=
  List.rec (motive := fun _ => (List PQ → List PS) → List PS) (fun k => k []) (fun p _ ih k => litN p.m fun m => litN (Nat.pow 2 p.i) fun b => litN (softN p) fun s => ih fun l => k (⟨p, s, m, b⟩ :: l)) its
noncomputable def pickQ (c : Nat) (l : List PQ) : List PS → (PQ → List PQ → List PS) → List PS :=
  List.rec (motive := fun _ => List PS → (PQ → List PQ → List PS) → List PS) (fun no _ => no) (fun q t ih no yes => bitK q.s (ih no fun p r => yes p (q :: r)) (ifB (Nat.beq (Nat.land q.m c) q.m) (yes q t) (ih no fun p r => yes p (q :: r)))) l
noncomputable def planQ (n : Nat) : Nat → List PQ → List PS :=
  Nat.rec (motive := fun _ => Nat → List PQ → List PS) (fun _ _ => []) (fun _ ih c l => pickQ c l (List.rec (motive := fun _ => List PS) [] (fun q t _ => q.p :: litN (Nat.lor c q.b) fun c => ih c t) l) (fun q r => q.p :: litN (Nat.lor c q.b) fun c => ih c r)) n
/-- The plan, quick. -/
noncomputable def planF (n c : Nat) (its : List PS) : List PS := cmpP its fun l => planQ n c l
--}PLANF
/-- The edges go back. -/
def okE : Nat → List Oper → Bool
  | _, [] => true
  | i, o :: l => (o.after.toList.all fun e => !Region.binds .any e || Nat.blt e.on i) && okE (i + 1) l
noncomputable def drawB1 (P : Program) (n : Nat) (ops : Array Oper) (no : Bx CodeT) : Bx CodeT :=
  match planF ops.size 0 (itemsGo 0 [] ops.toList) with
  | pl => match okF ops n (itemsGo 0 [] ops.toList) pl with
    | true => planB P n ops [] pl
    | false => no

/-- A map literal whose entries are laid in any order: the map's temporary; how an entry is laid. -/
structure LitP where
  tm : Tmp
  ty : TypeId
  kt : Nat
def litOf (P : Program) (o : Oper) : Option LitP :=
  match o.op, o.dst, o.guard with
  | .makeMap ty none, some d, none => match P.underlying ty with
    | some (.map kt _) => (keyTag (P.underlying kt)).map fun T => ⟨d, ty, T⟩
    | _ => none
  | _, _, _ => none
def lateOf (q : LitP) (o : Oper) : Option (Value × Operand) :=
  match o.op, o.dst, o.guard with
  | .insert ty (.tmp d) (.const k) v, none, none => match Nat.beq ty q.ty && Nat.beq d q.tm with
    | true => some (k, v)
    | false => none
  | _, _, _ => none
def dummyO (o : Oper) : Oper := { o with op := .move (.const undef), dst := none, guard := none }
def isLate (q : LitP) (o : Oper) : Bool := (lateOf q o).isSome
def litItem (q : LitP) (p : PS) : PS := match isLate q p.o with | true => ⟨p.i, dummyO p.o, p.m⟩ | false => p
/-- The keys are of one kind, and apart. -/
def keysOk (T : Nat) : List Value → Bool
  | [] => true
  | k :: l => Nat.beq (ofV k).tag T && ((l.all fun k' => Nat.beq (ofV k').a (ofV k).a && !keySame T (ofV k) (ofV k')) && keysOk T l)
where keySame (T : Nat) (x y : AV) : Bool := match T with | 0 => x.i == y.i | _ => x.s == y.s
/-- What an entry looks at stays. -/
def okL (q : LitP) (ops : Array Oper) (its pl : List PS) : Bool :=
  (pl.all fun p => !(p.o.dst == some q.tm)) && (its.all fun l => !isLate q l.o || (Nat.testBit l.m 0 && pl.all fun p => match p.o.dst with
    | some d => !(seenBy ops l.o).elem d || Nat.testBit l.m p.i
    | none => true))
def litKV (q : LitP) (l : List PS) : List (Value × Operand) := l.filterMap fun p => lateOf q p.o
noncomputable def litEs : List (Value × Operand) → Bx (Fr → List ME)
  | [] => ⟨fun _ => []⟩
  | (k, v) :: l => ⟨fun t => ⟨ofV k, (evB v).f t, 0⟩ :: (litEs l).f t⟩
noncomputable def litC (put : Fr → AV → Fr) (tm : Fr → AV) (body : CodeT) (es : Fr → List ME) : CodeT := fun call t h k =>
  body call (put t (.map h.next)) ⟨h.t, h.next + 1⟩ fun _ _ t h => k 0 0 t (h.put (tm t).b (some (.lit (es t))))
noncomputable def litB (P : Program) (n : Nat) (ops : Array Oper) : Bx CodeT :=
  match itemsGo 0 [] ops.toList with
  | [] => ⟨fun _ _ _ _ => none⟩
  | z :: its => match litOf P z.o with
    | none => ⟨fun _ _ _ _ => none⟩
    | some q => match planF ops.size 1 (its.map (litItem q)) with
      | pl => match okF ops n (z :: its.map (litItem q)) (z :: pl) && okL q ops its (its.map (litItem q)) && keysOk q.kt ((litKV q its).map (·.1)) with
        | true => ⟨litC (putF n (some q.tm)).f (evB (.tmp q.tm)).f (planB P n ops [] pl).f (litEs (litKV q its)).f⟩
        | false => ⟨fun _ _ _ _ => none⟩
noncomputable def drawB (P : Program) (n : Nat) (ops : Array Oper) : Bx CodeT :=
  match okE 0 ops.toList with
  | true => drawB1 P n ops (litB P n ops)
  | false => ⟨fun _ _ _ _ => none⟩

noncomputable def seqC (a b : CodeT) : CodeT := fun call t h k => a call t h fun x o t h => ifB (Nat.beq x 0) (b call t h k) (k x o t h)
noncomputable def condC (c : Fr → AV) (a b : CodeT) : CodeT := fun call t h k => ifB (Nat.beq (c t).tag 1) (ifB (Nat.beq (c t).a 1) (a call t h k) (b call t h k)) none
noncomputable def blockC (id : Nat) (b : CodeT) : CodeT := fun call t h k => b call t h fun x o t h => ifB (Nat.beq x 1) (ifB (Nat.beq o id) (k 0 0 t h) (k x o t h)) (k x o t h)
noncomputable def loopC (b : CodeT) : CodeT := fun call t h k => loopK none (fun t h k => b call t h k) 100000 t h k

/-- A range over a function: the record of the loop is laid; the function is called; what a round left is done. -/
noncomputable def rangeFC (n : Nat) (f : Fr → AV) (ps : List Tmp) (asg body : Code) : CodeT := fun call t h k => ifB (Nat.beq (f t).a 1)
  (valK call (f t) [.yield h.next] (h.new (.loop 0 0 0 (n, t, ps, asg, body))) fun _ h2 => optK none (h2.get h.next) fun o => ifB (Nat.beq o.kind 4) (ifB (Nat.beq o.m 1) none
    (optK none o.lp fun lp => nthN o.ns fun x => k o.n x t (h2.put h.next (some (.loop o.n x 3 lp))))) none) none

/-- A range over a map whose entries may come in any order: the iterator, what 'next', its flag and 'entry' are put into; what is done with an entry; where. -/
structure AnyP where
  it : Nat
  n1 : Nat
  c : Nat
  e1 : Nat
  o21 : Array Oper
  tail : List Oper
  id2 : Nat
  rest : Code
def anyOps (id : Nat) (o20 o21 : Array Oper) (c id' id2 : Nat) (rest : Code) : Option AnyP :=
  match o20.toList, o21.toList with
  | [a, b], e :: tail => match a.op, b.op, e.op, a.dst, b.dst, e.dst, a.guard, b.guard, e.guard with
    | .next (.tmp it) false, .extract (.tmp m1) 0, .entry (.tmp it'), some n1, some c', some e1, none, none, none =>
      match Nat.beq it it' && Nat.beq m1 n1 && Nat.beq c c' && Nat.beq id id' && !Nat.beq it n1 && !Nat.beq it c && !Nat.beq c n1 with
      | true => some ⟨it, n1, c, e1, o21, tail, id2, rest⟩
      | false => none
    | _, _, _, _, _, _, _, _, _ => none
  | _, _ => none
def anyShape (id : Nat) : Code → Option AnyP
  | .loop (.seq (.region _ o20 false) (.seq (.cond (.tmp c) .skip (.exit id')) (.block id2 (.seq (.region _ o21 false) rest)))) => anyOps id o20 o21 c id' id2 rest
  | _ => none
def dstsL (l : List Oper) : List Nat := l.filterMap (·.dst)
/-- What code writes and looks at. -/
def dstsC : Code → List Nat
  | .region _ ops _ => dstsL ops.toList
  | .seq a b | .cond _ a b => dstsC a ++ dstsC b
  | .block _ b | .loop b => dstsC b
  | _ => []
def seenC : Code → List Nat
  | .region _ ops _ => ops.toList.flatMap fun o => tmpsOf o.op.operands.toList
  | .seq a b => seenC a ++ seenC b
  | .cond c a b => tmpsOf [c] ++ (seenC a ++ seenC b)
  | .block _ b | .loop b => seenC b
  | _ => []
/-- The maps that code may look at, alone in memory. -/
noncomputable def mapsK (h : AH) (t : Fr) (g : AH) (l : List Nat) : AH :=
  List.rec (motive := fun _ => AH) g (fun i _ ih => ifB (Nat.beq ((evB (.tmp i)).f t).tag 5) (ifB (Nat.beq ((evB (.tmp i)).f t).a 1) (optK ih (h.get ((evB (.tmp i)).f t).b) fun o => ifB (Nat.beq o.kind 1) (AH.put ih ((evB (.tmp i)).f t).b (some o)) ih) ih) ih) l
noncomputable def junkK (t : Fr) (l : List Nat) : Fr := List.rec (motive := fun _ => Fr) t (fun i _ ih => ifB (Nat.blt i 512) ((setF i).f ih .junk) ih) l

noncomputable def meEq (x y : ME) : Bool := ifB (avEq1 x.key y.key) (ifB (avEq1 x.val y.val) (Nat.beq x.born y.born) false) false
noncomputable def mesEq (l : List ME) : List ME → Bool :=
  List.rec (motive := fun _ => List ME → Bool) (fun m => List.casesOn m true fun _ _ => false) (fun a _ ih m => List.casesOn m false fun b bs => ifB (meEq a b) (ih bs) false) l
noncomputable def mapEq (x y : Option OB) : Bool :=
  Option.casesOn x false fun a => Option.casesOn y false fun b => ifB (Nat.beq a.kind 1) (ifB (Nat.beq b.kind 1) (ifB (Nat.beq a.n b.n) (mesEq a.es b.es) false) false) false
/-- The maps that were looked at stay. -/
noncomputable def sameMaps (h g : AH) (t : Fr) (l : List Nat) : Bool :=
  List.rec (motive := fun _ => Bool) true (fun i _ ih => ifB (Nat.beq ((evB (.tmp i)).f t).tag 5) (ifB (Nat.beq ((evB (.tmp i)).f t).a 1) (ifB (mapEq (h.get ((evB (.tmp i)).f t).b) (g.get ((evB (.tmp i)).f t).b)) ih false) ih) ih) l
/-- Temporaries below n that are not of l stay. -/
noncomputable def sameT (t u : Fr) (l : List Nat) (n : Nat) : Bool :=
  Nat.rec (motive := fun _ => Bool) true (fun i ih => ifB (l.elem i) ih (ifB (avEq ((evB (.tmp i)).f t) ((evB (.tmp i)).f u)) ih false)) n
/-- What an entry's walk leaves of its own object. -/
noncomputable def anyOneK (q : AnyP) (J sh : List Nat) (n : Nat) (body : CodeT) (call : CallT) (t : Fr) (h : AH) (e : ME) (k : OB → R) : R :=
  ifB (Nat.beq e.val.tag 4) (ifB (Nat.beq e.val.a 1) (optK none (h.get e.val.b) fun o => ifB (Nat.beq o.kind 0)
    (optK none (body call ((putF n (some q.e1)).f ((putF n (some q.c)).f ((putF n (some q.n1)).f (junkK t J) (.tup [.bool true, e.key, e.val])) (.bool true)) (.tup [e.key, e.val])) (AH.put (mapsK h t ⟨.nil, h.next⟩ sh) e.val.b (some o)) fun y x t' h' =>
      ifB (ifB (Nat.beq y 0) true (ifB (Nat.beq y 1) (Nat.beq x q.id2) false)) (ifB (Nat.beq h'.next h.next) (ifB (sameT (junkK t J) t' J n) (ifB (sameMaps h' h t sh) (some (.val .undef h')) none) none) none) none)
      fun p => optK none (p.heap.get e.val.b) k) none) none) none
noncomputable def anyAllK (one : ME → (OB → R) → R) (l : List ME) : AH → (AH → R) → R :=
  List.rec (motive := fun _ => AH → (AH → R) → R) (fun h k => k h) (fun e _ ih h k => one e fun o => ih (h.put e.val.b (some o)) k) l
noncomputable def ownsOk (l : List ME) : Bool :=
  List.rec (motive := fun _ => Bool) true (fun e l ih => ifB (l.all fun f => !Nat.beq f.val.b e.val.b && !Nat.beq f.born e.born) ih false) l
noncomputable def anyTest (h : AH) (p : AV) : Bool := ifB (Nat.beq p.tag 3) (ifB (Nat.beq p.a 1) (Option.casesOn (h.get p.b) false fun r => ifB (Nat.beq r.kind 3) (List.casesOn r.ns (Option.casesOn (h.get r.n) false fun m => ifB (Nat.beq m.kind 1) (Nat.ble 2 m.es.length) false) fun _ _ => false) false) false) false
/-- An entry's walk in the whole of memory. -/
noncomputable def runD (q : AnyP) (J : List Nat) (n : Nat) (body : CodeT) (call : CallT) (t : Fr) (e : ME) (h : AH) (k : AH → R) : R :=
  body call ((putF n (some q.e1)).f ((putF n (some q.c)).f ((putF n (some q.n1)).f (junkK t J) (.tup [.bool true, e.key, e.val])) (.bool true)) (.tup [e.key, e.val])) h fun y x t' h' =>
    ifB (ifB (Nat.beq y 0) true (ifB (Nat.beq y 1) (Nat.beq x q.id2) false)) (ifB (sameT (junkK t J) t' J n) (k h') none) none
/-- Whether an entry's walk writes nothing that was there. -/
noncomputable def stillD (run : ME → AH → (AH → R) → R) (g : AH) (e : ME) : Bool :=
  Option.casesOn (run e g.mark fun h' => ifB (Nat.ble g.next h'.low) (some (.val .undef h')) none) false fun _ => true
noncomputable def allD (p : ME → Bool) (l : List ME) : Bool := List.rec (motive := fun _ => Bool) true (fun e _ ih => ifB (p e) ih false) l
noncomputable def partD (p : ME → Bool) (l : List ME) : List ME → List ME → (List ME → List ME → R) → R :=
  List.rec (motive := fun _ => List ME → List ME → (List ME → List ME → R) → R) (fun N Z k => k N Z) (fun e _ ih N Z k => ifB (p e) (ih N (e :: Z) k) (ih (e :: N) Z k)) l
noncomputable def yesThen (a b : R) : R := optK none a fun p => RV.casesOn p b fun _ _ => none
noncomputable def eachD (F : ME → R) (l : List ME) : R := List.rec (motive := fun _ => R) (some .yes) (fun e _ ih => yesThen (F e) ih) l
noncomputable def lessD (b : Nat) (l : List ME) : List ME := List.rec (motive := fun _ => List ME) [] (fun e _ ih => ifB (Nat.beq e.born b) ih (e :: ih)) l
/-- Every order of the entries whose walks write; the others may come at any time. -/
noncomputable def goD (run : ME → AH → (AH → R) → R) (f : Nat) : List ME → List ME → AH → (AH → R) → R :=
  Nat.rec (motive := fun _ => List ME → List ME → AH → (AH → R) → R) (fun _ _ _ _ => none)
    (fun _ ih Z L g k => ifB (allD (stillD run g) Z) (partD (stillD run g) L [] Z fun N Z' => List.casesOn N (k g) fun _ _ => eachD (fun e => run e g fun h' => ih Z' (lessD e.born N) h' k) N) none) f
noncomputable def bornsOk (l : List ME) : Bool :=
  List.rec (motive := fun _ => Bool) true (fun e l ih => ifB (l.all fun f => !Nat.beq f.born e.born) ih false) l
noncomputable def sliceD (l : List ME) : Bool := List.casesOn l true fun e _ => Nat.beq e.val.tag 4
noncomputable def anyC (q : AnyP) (J sh : List Nat) (n : Nat) (body ordinary : CodeT) : CodeT := fun call t h k => ifB (anyTest h ((evB (.tmp q.it)).f t))
  (iterK h ((evB (.tmp q.it)).f t) fun r m => ifB (sliceD m.es) (ifB (ownsOk m.es && !J.elem q.it && (List.casesOn r.ns true fun _ _ => false) && (Option.casesOn ((mapsK h t ⟨.nil, h.next⟩ sh).get r.n) true fun _ => false)) (anyAllK (anyOneK q J sh n body call t h) m.es (h.put ((evB (.tmp q.it)).f t).b none) fun h' => k 0 0 (junkK t J) h') none)
    (ifB (bornsOk m.es && !J.elem q.it && (List.casesOn r.ns true fun _ _ => false)) (goD (runD q J n body call t) (Nat.succ m.es.length) [] m.es ((h.put ((evB (.tmp q.it)).f t).b none).put r.n none) fun h' => k 0 0 (junkK t J) h') none))
  (ordinary call t h k)

noncomputable def codeG (P : Program) (n : Nat) (rd : Bool) (blk : Nat → Code → Bx CodeT → Bx CodeT) : Code → Bx CodeT
  | .rangeFunc g ps asg body => match rd with
    | false => ⟨rangeFC n (evB g).f ps.toList asg body⟩
    | true => ⟨fun _ _ _ _ => none⟩
  | .skip => ⟨fun _ t h k => k 0 0 t h⟩
  | .region _ ops false => opsB P n ops ops.toList
  | .region _ ops true => drawB P n ops
  | .seq a b => ⟨seqC (codeG P n rd blk a).f (codeG P n rd blk b).f⟩
  | .cond c a b => ⟨condC (evB c).f (codeG P n rd blk a).f (codeG P n rd blk b).f⟩
  | .block id b => blk id b (codeG P n rd blk b)
  | .loop b => ⟨loopC (codeG P n rd blk b).f⟩
  | .exit id => ⟨fun _ t h k => k 1 id t h⟩
  | .ret => ⟨fun _ t h k => k 2 0 t h⟩
  | _ => ⟨fun _ _ _ _ => none⟩

noncomputable def codeB0 (P : Program) (n : Nat) (rd : Bool) (c : Code) : Bx CodeT := codeG P n rd (fun id _ b => ⟨blockC id b.f⟩) c
noncomputable def blkB (P : Program) (n : Nat) (rd : Bool) (id : Nat) (b : Code) (bb : Bx CodeT) : Bx CodeT :=
  match anyShape id b with
  | some q => match Nat.blt q.n1 n && Nat.blt q.c n with
    | true => ⟨anyC q (q.n1 :: q.c :: q.e1 :: (dstsL q.tail ++ dstsC q.rest)) ((q.tail.flatMap fun o => tmpsOf o.op.operands.toList) ++ seenC q.rest) n (seqC (opsB P n q.o21 q.tail).f (codeB0 P n rd q.rest).f) (blockC id bb.f)⟩
    | false => ⟨blockC id bb.f⟩
  | none => ⟨blockC id bb.f⟩
noncomputable def codeB (P : Program) (n : Nat) (rd : Bool) (c : Code) : Bx CodeT := codeG P n rd (blkB P n rd) c

noncomputable def resB (P : Program) : List ResultVar → Bx (Fr → AH → (List AV → R) → R)
  | [] => ⟨fun _ _ k => k []⟩
  | .tmp i :: rest => ⟨fun t h k => (resB P rest).f t h fun l => k ((evB (.tmp i)).f t :: l)⟩
  | .cell i ty :: rest => ⟨fun t h k => cellsK h ((evB (.tmp i)).f t) fun o => (partB P ty).f o.cs ((evB (.tmp i)).f t).c fun v => (resB P rest).f t h fun l => k (v :: l)⟩
def tupA : List AV → AV
  | [v] => v
  | vs => .tup vs

/-- The arguments in the first slots. -/
noncomputable def argsB : Nat → Nat → Bx (Fr → List AV → (Fr → R) → R)
  | _, 0 => ⟨fun t l k => List.casesOn l (k t) fun _ _ => none⟩
  | i, n + 1 => ⟨fun t l k => List.casesOn l none fun v l => (argsB (i + 1) n).f ((setF i).f t v) l k⟩

structure FnB where
  run : CallT → List AV → AH → KV → R
noncomputable def bodyC (args : Fr → List AV → (Fr → R) → R) (body : CodeT) (res : Fr → AH → (List AV → R) → R) : CallT → List AV → AH → KV → R := fun call xs h k =>
  args frame0 xs fun t => body call t h fun x _ t h => ifB (Nat.beq x 1) none (res t h fun l => k (tupA l) h)
noncomputable def fnB (P : Program) (f : Nat) : FnB :=
  match funK P f with
  | some fn => match fn.body with
    | some c => match fn.name == "runtime.NumGoroutine" || Nat.ble 512 fn.ntmps || !Nat.ble (fn.params.size + fn.nfree) fn.ntmps with
      | true => ⟨fun _ _ _ _ => none⟩
      | false => ⟨bodyC (argsB 0 (fn.params.size + fn.nfree)).f (codeB P fn.ntmps false c).f (resB P fn.results.toList).f⟩
    | none => ⟨fun _ _ _ _ => none⟩
  | none => ⟨fun _ _ _ _ => none⟩

/-- The parameters of a round. -/
noncomputable def setTs (n : Nat) : List Tmp → Bx (Fr → List AV → (Fr → R) → R)
  | [] => ⟨fun t l k => List.casesOn l (k t) fun _ _ => none⟩
  | p :: ps => ⟨fun t l k => List.casesOn l none fun v l => (setTs n ps).f ((putF n (some p)).f t v) l k⟩
noncomputable def roundK (P : Program) (call : CallT) (l : Nat) (xs : List AV) (h : AH) (k : KV) : R :=
  optK none (h.get l) fun o => ifB (Nat.beq o.kind 4) (optK none o.lp fun lp => (setTs lp.1 lp.2.2.1).f lp.2.1 xs fun t =>
    (codeB P lp.1 true lp.2.2.2.1).f call t h fun y _ t h => ifB (Nat.beq y 0) (optK none (h.get l) fun o => ifB (Nat.beq o.kind 4) (ifB (Nat.beq o.m 0) (optK none o.lp fun lp2 => nthN o.ns fun e =>
      (codeB P lp.1 true lp.2.2.2.2).f call t (h.put l (some (.loop o.n e 1 lp2))) fun y e _ h => optK none (h.get l) fun o => ifB (Nat.beq o.kind 4) (optK none o.lp fun lp3 =>
        k (.bool (Nat.beq y 0)) (h.put l (some (.loop y e (ifB (Nat.beq y 0) 0 2) lp3)))) none) none) none) none) none
noncomputable def callK (P : Program) (n : Nat) : CallT :=
  Nat.rec (motive := fun _ => CallT) ⟨fun _ _ _ _ => none, fun _ _ _ _ => none⟩ (fun _ call => ⟨fun f xs h k => (fnB P f).run call xs h k, fun l xs h k => roundK P call l xs h k⟩) n

end Go.Proofs.YtfkdkbekmimhoaaGreatDoor
/- The machine for closed runs: laws of its tables, frames and lists. -/
namespace Go.Proofs.YtfkdkbekmimhoaaGreatDoor

@[simp] theorem ifB_t {α : Type} (x y : α) : ifB true x y = x := rfl
@[simp] theorem ifB_f {α : Type} (x y : α) : ifB false x y = y := rfl
theorem ifB_some {β : Type} {b : Bool} {x : Option β} {r : β} (h : ifB b x none = some r) : b = true ∧ x = some r := by
  cases b
  · cases h
  · exact ⟨rfl, h⟩
theorem ifB_eq {α : Type} (b : Bool) (x y : α) : ifB b x y = if b then x else y := by cases b <;> rfl
theorem beq_of {m n : Nat} (h : Nat.beq m n = true) : m = n := Nat.eq_of_beq_eq_true h
theorem optK_some {α β : Type} {x : Option α} {k : α → Option β} {r : β} (h : optK none x k = some r) : ∃ a, x = some a ∧ k a = some r := by
  cases x with
  | none => cases h
  | some a => exact ⟨a, rfl, h⟩
theorem optV_some {o : R} {f : AV → AH → R} {r : RV} (h : optK none o (fun p => RV.rec (motive := fun _ => R) none f p) = some r) : ∃ v h1, o = some (.val v h1) ∧ f v h1 = some r := by
  obtain ⟨p, h1, h2⟩ := optK_some h
  cases p with
  | yes => cases h2
  | val v g => exact ⟨v, g, h1, h2⟩
theorem natK_some {β : Type} {i : Int} {k : Nat → Option β} {r : β} (h : natK none i k = some r) : ∃ n : Nat, i = (n : Int) ∧ k n = some r := by
  cases i with
  | ofNat n => exact ⟨n, rfl, h⟩
  | negSucc n => cases h

theorem Trib.get_nil (n : Nat) : Trib.nil.get n = none := rfl
theorem Trib.get_node (v : Option OB) (l r : Trib) (n : Nat) : (Trib.node v l r).get n = if n = 0 then v else if n % 2 = 1 then l.get (n / 2) else r.get (n / 2 - 1) := by
  show ifB (Nat.beq n 0) v (ifB (Nat.beq (n % 2) 1) (l.get (n / 2)) (r.get (n / 2 - 1))) = _
  rw [ifB_eq, ifB_eq]
  by_cases h : n = 0
  · simp [h]
  · have h1 : Nat.beq n 0 = false := by
      cases hb : Nat.beq n 0
      · rfl
      · exact absurd (beq_of hb) h
    rw [h1, if_neg h]
    by_cases h2 : n % 2 = 1
    · simp [h2]
    · have h3 : Nat.beq (n % 2) 1 = false := by
        cases hb : Nat.beq (n % 2) 1
        · rfl
        · exact absurd (beq_of hb) h2
      rw [h3, if_neg h2]
      rfl
theorem Trib.get_eq (t : Trib) (n : Nat) : t.get n = if n = 0 then t.v else if n % 2 = 1 then t.l.get (n / 2) else t.r.get (n / 2 - 1) := by
  cases t with
  | nil => rw [Trib.get_nil]; simp [Trib.v, Trib.l, Trib.r, Trib.get_nil]
  | node v l r => rw [Trib.get_node]; rfl
theorem Trib.put_succ (o : Option OB) (d : Nat) (t : Trib) (n : Nat) : Trib.put o (d + 1) t n =
    if n = 0 then .node o t.l t.r else if n % 2 = 1 then .node t.v (Trib.put o d t.l (n / 2)) t.r else .node t.v t.l (Trib.put o d t.r (n / 2 - 1)) := by
  show ifB (Nat.beq n 0) _ (ifB (Nat.beq (n % 2) 1) _ _) = _
  rw [ifB_eq, ifB_eq]
  have e : ∀ m k : Nat, (Nat.beq m k = true) = (m = k) := fun m k => propext ⟨beq_of, fun h => by subst h; exact Nat.beq_refl m⟩
  simp only [e]
  rfl
theorem Trib.get_put (o : Option OB) : ∀ (d : Nat) (t : Trib) (n m : Nat), (Trib.put o d t n).get m = if m = n ∧ n + 1 < 2 ^ d then o else t.get m
  | 0, t, n, m => by
    rw [if_neg (by simp)]
    rfl
  | d + 1, t, n, m => by
    have hp : 2 ^ (d + 1) = 2 * 2 ^ d := by rw [Nat.pow_succ]; omega
    have hpos : 0 < 2 ^ d := Nat.two_pow_pos d
    have ihl := Trib.get_put o d t.l (n / 2) (m / 2)
    have ihr := Trib.get_put o d t.r (n / 2 - 1) (m / 2 - 1)
    rw [Trib.put_succ, hp]
    generalize 2 ^ d = q at *
    have e := Trib.get_eq t m
    by_cases h0 : n = 0
    · subst h0
      rw [if_pos rfl, Trib.get_node]
      by_cases hm : m = 0
      · subst hm
        rw [if_pos rfl, if_pos ⟨rfl, by omega⟩]
      · rw [if_neg hm, if_neg (show ¬(m = 0 ∧ 0 + 1 < 2 * q) from fun h => hm h.1), e, if_neg hm]
    · rw [if_neg h0]
      by_cases h1 : n % 2 = 1
      · rw [if_pos h1, Trib.get_node]
        by_cases hm : m = 0
        · rw [if_pos hm, if_neg (by omega), e, if_pos hm]
        · rw [if_neg hm]
          by_cases hm1 : m % 2 = 1
          · rw [if_pos hm1, ihl]
            by_cases hc : m = n ∧ n + 1 < 2 * q
            · rw [if_pos hc, if_pos (by omega)]
            · rw [if_neg hc, if_neg (by omega), e, if_neg hm, if_pos hm1]
          · rw [if_neg hm1, if_neg (by omega), e, if_neg hm, if_neg hm1]
      · rw [if_neg h1, Trib.get_node]
        by_cases hm : m = 0
        · rw [if_pos hm, if_neg (by omega), e, if_pos hm]
        · rw [if_neg hm]
          by_cases hm1 : m % 2 = 1
          · rw [if_pos hm1, if_neg (by omega), e, if_neg hm, if_pos hm1]
          · rw [if_neg hm1, ihr]
            by_cases hc : m = n ∧ n + 1 < 2 * q
            · rw [if_pos hc, if_pos (by omega)]
            · rw [if_neg hc, if_neg (by omega), e, if_neg hm, if_neg hm1]

section
variable {α : Type}
def get8 (i : Nat) (t : N8 α) : α :=
  match i with
  | 0 => t.f0 | 1 => t.f1 | 2 => t.f2 | 3 => t.f3 | 4 => t.f4 | 5 => t.f5 | 6 => t.f6 | _ => t.f7
def set8 (i : Nat) (t : N8 α) (v : α) : N8 α := put8 i fun f => f t v
theorem sel8_eq {β : Type} (i : Nat) (k : (N8 α → α) → β) : sel8 i k = k (get8 i) := by
  rcases i with _ | _ | _ | _ | _ | _ | _ | _ <;> rfl
theorem put8_eq {β : Type} (i : Nat) (k : (N8 α → α → N8 α) → β) : put8 i k = k (set8 i) := by
  rcases i with _ | _ | _ | _ | _ | _ | _ | _ <;> rfl
theorem get8_set8 {i j : Nat} (hi : i < 8) (hj : j < 8) (t : N8 α) (v : α) : get8 i (set8 j t v) = if i = j then v else get8 i t := by
  rcases i with _ | _ | _ | _ | _ | _ | _ | _ | _ <;> first | omega | (rcases j with _ | _ | _ | _ | _ | _ | _ | _ | _ <;> first | omega | rfl)
theorem get8_rep {i : Nat} (a : α) : get8 i (rep8 a) = a := by
  rcases i with _ | _ | _ | _ | _ | _ | _ | _ <;> rfl
end


theorem bitK_z {β : Type} (x y : β) : bitK 0 x y = x := rfl
theorem bitK_s {β : Type} (x y : β) : bitK 1 x y = y := rfl
theorem s8K_eq {α β : Type} (i : Nat) (k : (N8 α → α) → β) : s8K i k = k (get8 (i % 8)) := by
  have e1 : Nat.div (Nat.mod i 8) 4 = i % 8 / 4 := rfl
  have e2 : Nat.mod (Nat.div i 2) 2 = i / 2 % 2 := rfl
  have e3 : Nat.mod i 2 = i % 2 := rfl
  unfold s8K
  rw [e1, e2, e3]
  rcases (by omega : i % 8 = 0 ∨ i % 8 = 1 ∨ i % 8 = 2 ∨ i % 8 = 3 ∨ i % 8 = 4 ∨ i % 8 = 5 ∨ i % 8 = 6 ∨ i % 8 = 7) with e | e | e | e | e | e | e | e <;>
  · have a2 : i / 2 % 2 = i % 8 / 2 % 2 := by omega
    have a3 : i % 2 = i % 8 % 2 := by omega
    rw [a2, a3, e]
    rfl
theorem p8K_eq {α β : Type} (i : Nat) (k : (N8 α → α → N8 α) → β) : p8K i k = k (set8 (i % 8)) := by
  have e1 : Nat.div (Nat.mod i 8) 4 = i % 8 / 4 := rfl
  have e2 : Nat.mod (Nat.div i 2) 2 = i / 2 % 2 := rfl
  have e3 : Nat.mod i 2 = i % 2 := rfl
  unfold p8K
  rw [e1, e2, e3]
  rcases (by omega : i % 8 = 0 ∨ i % 8 = 1 ∨ i % 8 = 2 ∨ i % 8 = 3 ∨ i % 8 = 4 ∨ i % 8 = 5 ∨ i % 8 = 6 ∨ i % 8 = 7) with e | e | e | e | e | e | e | e <;>
  · have a2 : i / 2 % 2 = i % 8 / 2 % 2 := by omega
    have a3 : i % 2 = i % 8 % 2 := by omega
    rw [a2, a3, e]
    rfl
theorem lvl8 {α β : Type} (g : Nat → β → N8 α) (u : Nat → β → N8 α → β) (n : Nat) (H : ∀ i j, i < n → j < n → ∀ t x, g i (u j t x) = if i = j then x else g i t) (i j : Nat) (hi : i < 8 * n) (hj : j < 8 * n) (t : β) (v : α) :
    get8 (i % 8) (g (i / 8) (u (j / 8) t (set8 (j % 8) (g (j / 8) t) v))) = if i = j then v else get8 (i % 8) (g (i / 8) t) := by
  rw [H (i / 8) (j / 8) (by omega) (by omega)]
  by_cases h : i / 8 = j / 8
  · rw [if_pos h, get8_set8 (by omega) (by omega), h]
    by_cases h2 : i % 8 = j % 8
    · rw [if_pos h2, if_pos (by omega)]
    · rw [if_neg h2, if_neg (by omega)]
  · rw [if_neg h, if_neg (by omega)]
theorem gH1_eq (i : Nat) (t : T5) : (gH1 i).f t = get8 (i % 8) t := by unfold gH1; rw [s8K_eq]
theorem gH2_eq (i : Nat) (t : T5) : (gH2 i).f t = get8 (i % 8) ((gH1 (i / 8)).f t) := by unfold gH2; rw [litN_eq, s8K_eq]; rfl
theorem gH3_eq (i : Nat) (t : T5) : (gH3 i).f t = get8 (i % 8) ((gH2 (i / 8)).f t) := by unfold gH3; rw [litN_eq, s8K_eq]; rfl
theorem gH4_eq (i : Nat) (t : T5) : (gH4 i).f t = get8 (i % 8) ((gH3 (i / 8)).f t) := by unfold gH4; rw [litN_eq, s8K_eq]; rfl
theorem gH5_eq (i : Nat) (t : T5) : (gH5 i).f t = get8 (i % 8) ((gH4 (i / 8)).f t) := by unfold gH5; rw [litN_eq, s8K_eq]; rfl
theorem uH1_eq (i : Nat) (t : T5) (v : T4) : (uH1 i).f t v = set8 (i % 8) t v := by unfold uH1; rw [p8K_eq]
theorem uH2_eq (i : Nat) (t : T5) (v : T3) : (uH2 i).f t v = (uH1 (i / 8)).f t (set8 (i % 8) ((gH1 (i / 8)).f t) v) := by unfold uH2; rw [litN_eq, p8K_eq]; rfl
theorem uH3_eq (i : Nat) (t : T5) (v : T2) : (uH3 i).f t v = (uH2 (i / 8)).f t (set8 (i % 8) ((gH2 (i / 8)).f t) v) := by unfold uH3; rw [litN_eq, p8K_eq]; rfl
theorem uH4_eq (i : Nat) (t : T5) (v : T1) : (uH4 i).f t v = (uH3 (i / 8)).f t (set8 (i % 8) ((gH3 (i / 8)).f t) v) := by unfold uH4; rw [litN_eq, p8K_eq]; rfl
theorem uH5_eq (i : Nat) (t : T5) (v : Option OB) : (uH5 i).f t v = (uH4 (i / 8)).f t (set8 (i % 8) ((gH4 (i / 8)).f t) v) := by unfold uH5; rw [litN_eq, p8K_eq]; rfl
theorem gu1 (i j : Nat) (hi : i < 8) (hj : j < 8) (t : T5) (v : T4) : (gH1 i).f ((uH1 j).f t v) = if i = j then v else (gH1 i).f t := by
  rw [gH1_eq, gH1_eq, uH1_eq, get8_set8 (by omega) (by omega), Nat.mod_eq_of_lt hi, Nat.mod_eq_of_lt hj]
theorem gu2 (i j : Nat) (hi : i < 64) (hj : j < 64) (t : T5) (v : T3) : (gH2 i).f ((uH2 j).f t v) = if i = j then v else (gH2 i).f t := by
  rw [gH2_eq, gH2_eq, uH2_eq]; exact lvl8 (fun i => (gH1 i).f) (fun i => (uH1 i).f) 8 gu1 i j hi hj t v
theorem gu3 (i j : Nat) (hi : i < 512) (hj : j < 512) (t : T5) (v : T2) : (gH3 i).f ((uH3 j).f t v) = if i = j then v else (gH3 i).f t := by
  rw [gH3_eq, gH3_eq, uH3_eq]; exact lvl8 (fun i => (gH2 i).f) (fun i => (uH2 i).f) 64 gu2 i j hi hj t v
theorem gu4 (i j : Nat) (hi : i < 4096) (hj : j < 4096) (t : T5) (v : T1) : (gH4 i).f ((uH4 j).f t v) = if i = j then v else (gH4 i).f t := by
  rw [gH4_eq, gH4_eq, uH4_eq]; exact lvl8 (fun i => (gH3 i).f) (fun i => (uH3 i).f) 512 gu3 i j hi hj t v
theorem gu5 (i j : Nat) (hi : i < 32768) (hj : j < 32768) (t : T5) (v : Option OB) : (gH5 i).f ((uH5 j).f t v) = if i = j then v else (gH5 i).f t := by
  rw [gH5_eq, gH5_eq, uH5_eq]; exact lvl8 (fun i => (gH4 i).f) (fun i => (uH4 i).f) 4096 gu4 i j hi hj t v
theorem blt_true {m n : Nat} (h : m < n) : Nat.blt m n = true := by simp [Nat.blt]; omega
theorem blt_false {m n : Nat} (h : ¬m < n) : Nat.blt m n = false := by
  cases hb : Nat.blt m n
  · rfl
  · exact absurd (Nat.le_of_ble_eq_true hb) (by omega)
theorem getH_eq (i : Nat) (t : Trie) : (getH i).f t = if i < 32768 then (gH5 i).f t.lo else t.hi.get (i - 32768) := by
  unfold getH
  by_cases h : i < 32768
  · rw [blt_true h, if_pos h]; rfl
  · rw [blt_false h, if_neg h]; rfl
theorem ble_true {m n : Nat} (h : m ≤ n) : Nat.ble m n = true := Nat.ble_eq_true_of_le h
theorem ble_false {m n : Nat} (h : ¬m ≤ n) : Nat.ble m n = false := by
  cases hb : Nat.ble m n
  · rfl
  · exact absurd (Nat.le_of_ble_eq_true hb) h
theorem putH_lo {i : Nat} (h : i < 32768) (t : Trie) (o : Option OB) : (putH i).f t o = ⟨(uH5 i).f t.lo o, t.hi, lowM t.low i⟩ := by unfold putH; rw [blt_true h, ifB_t]; rfl
theorem putH_hi {i : Nat} (h : ¬i < 32768) (h2 : i + 2 ≤ 16777216) (t : Trie) (o : Option OB) : (putH i).f t o = ⟨t.lo, Trib.put o 24 t.hi (i - 32768), lowM t.low i⟩ := by unfold putH; rw [blt_false h, ble_true h2, ifB_f, ifB_t]; rfl
theorem putH_no {i : Nat} (h : ¬i < 32768) (h2 : ¬i + 2 ≤ 16777216) (t : Trie) (o : Option OB) : (putH i).f t o = t := by unfold putH; rw [blt_false h, ble_false h2, ifB_f, ifB_f]
theorem putH_get (i j : Nat) (t : Trie) (o : Option OB) : (getH j).f ((putH i).f t o) = if j = i ∧ i + 1 < 16777216 then o else (getH j).f t := by
  by_cases h : i < 32768
  · rw [putH_lo h, getH_eq, getH_eq]
    by_cases h2 : j < 32768
    · rw [if_pos h2, if_pos h2, gu5 j i h2 h]
      by_cases h3 : j = i
      · rw [if_pos h3, if_pos ⟨h3, by omega⟩]
      · rw [if_neg h3, if_neg (fun q => h3 q.1)]
    · rw [if_neg h2, if_neg h2, if_neg (by omega)]
  · by_cases h4 : i + 2 ≤ 16777216
    · rw [putH_hi h h4, getH_eq, getH_eq]
      by_cases h2 : j < 32768
      · rw [if_pos h2, if_pos h2, if_neg (by omega)]
      · rw [if_neg h2, if_neg h2, Trib.get_put o 24]
        by_cases h3 : j = i
        · rw [if_pos ⟨by omega, by omega⟩, if_pos ⟨h3, by omega⟩]
        · rw [if_neg (by omega), if_neg (fun q => h3 q.1)]
    · rw [putH_no h h4, if_neg (show ¬(j = i ∧ i + 1 < 16777216) by omega)]
theorem AH.get_put (h : AH) (i : Nat) (o : Option OB) (j : Nat) : (h.put i o).get j = if j = i ∧ i + 1 < 16777216 then o else h.get j := putH_get i j h.t o
theorem AH.get_new (h : AH) (o : OB) (j : Nat) : (h.new o).get j = if j = h.next ∧ h.next + 1 < 16777216 then some o else h.get j := putH_get h.next j h.t (some o)
theorem lowM_le (a i : Nat) : lowM a i ≤ a ∧ lowM a i ≤ i := by
  unfold lowM
  by_cases h : i < a
  · rw [blt_true h, ifB_t]
    omega
  · rw [blt_false h, ifB_f]
    omega
/-- What lies below the least number that was written to is as it was. -/
def Froz (h h' : AH) : Prop := h'.low ≤ h.low ∧ ∀ j, j < h'.low → h'.get j = h.get j
theorem Froz.refl (h : AH) : Froz h h := ⟨Nat.le_refl _, fun _ _ => rfl⟩
theorem Froz.trans {h h' h'' : AH} (a : Froz h h') (b : Froz h' h'') : Froz h h'' := ⟨Nat.le_trans b.1 a.1, fun j hj => (b.2 j hj).trans (a.2 j (Nat.lt_of_lt_of_le hj b.1))⟩
theorem putH_low (i : Nat) (t : Trie) (o : Option OB) : ((putH i).f t o).low ≤ t.low ∧ ∀ j, j < ((putH i).f t o).low → (getH j).f ((putH i).f t o) = (getH j).f t := by
  by_cases h : i < 32768
  · have e : ((putH i).f t o).low = lowM t.low i := by rw [putH_lo h]
    rw [e]
    refine ⟨(lowM_le _ _).1, fun j hj => ?_⟩
    rw [putH_get, if_neg (fun q => by have := (lowM_le t.low i).2; omega)]
  · by_cases h4 : i + 2 ≤ 16777216
    · have e : ((putH i).f t o).low = lowM t.low i := by rw [putH_hi h h4]
      rw [e]
      refine ⟨(lowM_le _ _).1, fun j hj => ?_⟩
      rw [putH_get, if_neg (fun q => by have := (lowM_le t.low i).2; omega)]
    · rw [putH_no h h4]
      exact ⟨Nat.le_refl _, fun _ _ => rfl⟩
theorem lowM_ge {c a i : Nat} (h1 : c ≤ a) (h2 : c ≤ i) : c ≤ lowM a i := by
  unfold lowM
  by_cases h : i < a
  · rw [blt_true h, ifB_t]
    exact h2
  · rw [blt_false h, ifB_f]
    exact h1
theorem AH.low_put (h : AH) {i : Nat} (o : Option OB) (hs : i + 1 < 16777216) : (h.put i o).low = lowM h.low i := by
  show ((putH i).f h.t o).low = _
  by_cases h1 : i < 32768
  · rw [putH_lo h1]; rfl
  · rw [putH_hi h1 (by omega)]; rfl
theorem AH.froz_put (h : AH) (i : Nat) (o : Option OB) : Froz h (h.put i o) := putH_low i h.t o
theorem AH.froz_new (h : AH) (o : OB) : Froz h (h.new o) := putH_low h.next h.t (some o)
theorem AH.get_mark (h : AH) (i : Nat) : h.mark.get i = h.get i := by
  show (getH i).f h.mark.t = (getH i).f h.t
  rw [getH_eq, getH_eq]
  rfl
theorem AH.low_mark (h : AH) : h.mark.low = h.next := rfl
theorem AH.next_mark (h : AH) : h.mark.next = h.next := rfl
theorem AH.get_nil (n i : Nat) : (AH.mk Trie.nil n).get i = none := by
  show (getH i).f Trie.nil = none
  rw [getH_eq]
  by_cases h : i < 32768
  · rw [if_pos h, gH5_eq, gH4_eq, gH3_eq, gH2_eq, gH1_eq]
    unfold Trie.nil
    simp only [get8_rep]
  · rw [if_neg h]
    rfl
@[simp] theorem AH.next_put (h : AH) (i : Nat) (o : Option OB) : (h.put i o).next = h.next := rfl
@[simp] theorem AH.next_new (h : AH) (o : OB) : (h.new o).next = h.next + 1 := rfl

/-- A slot of a frame. -/
def Fr.get (t : Fr) (i : Nat) : AV := if i < 64 then get8 (i % 8) (get8 (i / 8) t.lo) else get8 ((i - 64) % 8) (get8 ((i - 64) / 8 % 8) (get8 ((i - 64) / 64) t.hi))
theorem getF_eq (i : Nat) (t : Fr) : (getF i).f t = t.get i := by
  unfold getF Fr.get
  by_cases h : i < 64
  · have : Nat.blt i 64 = true := by simp [Nat.blt]; omega
    rw [this, if_pos h]
    simp only [sel8_eq]
  · have : Nat.blt i 64 = false := by
      cases hb : Nat.blt i 64
      · rfl
      · exact absurd (Nat.le_of_ble_eq_true hb) (by omega)
    rw [this, if_neg h]
    simp only [sel8_eq]
theorem setF_get {i j : Nat} (hi : i < 512) (hj : j < 512) (t : Fr) (v : AV) : ((setF j).f t v).get i = if i = j then v else t.get i := by
  unfold setF
  by_cases h : j < 64
  · have hb : Nat.blt j 64 = true := by simp [Nat.blt]; omega
    rw [hb]
    simp only [sel8_eq, put8_eq]
    unfold Fr.get
    by_cases h2 : i < 64
    · rw [if_pos h2, if_pos h2]
      simp only
      rw [get8_set8 (by omega) (by omega)]
      by_cases h3 : i / 8 = j / 8
      · rw [if_pos h3, get8_set8 (by omega) (by omega), ← h3]
        by_cases h4 : i = j
        · rw [if_pos h4, if_pos (by omega)]
        · rw [if_neg h4, if_neg (by omega)]
      · rw [if_neg h3, if_neg (by omega)]
    · rw [if_neg h2, if_neg h2, if_neg (by omega)]
  · have hb : Nat.blt j 64 = false := by
      cases hb : Nat.blt j 64
      · rfl
      · exact absurd (Nat.le_of_ble_eq_true hb) (by omega)
    rw [hb]
    simp only [sel8_eq, put8_eq]
    unfold Fr.get
    by_cases h2 : i < 64
    · rw [if_pos h2, if_pos h2, if_neg (by omega)]
    · rw [if_neg h2, if_neg h2]
      simp only
      rw [get8_set8 (by omega) (by omega)]
      by_cases h3 : (i - 64) / 64 = (j - 64) / 64
      · rw [if_pos h3, get8_set8 (by omega) (by omega), ← h3]
        by_cases h4 : (i - 64) / 8 % 8 = (j - 64) / 8 % 8
        · rw [if_pos h4, get8_set8 (by omega) (by omega), ← h4]
          by_cases h5 : i = j
          · rw [if_pos h5, if_pos (by omega)]
          · rw [if_neg h5, if_neg (by omega)]
        · rw [if_neg h4, if_neg (by omega)]
      · rw [if_neg h3, if_neg (by omega)]
theorem frame0_get (i : Nat) : frame0.get i = AV.undef := by
  unfold Fr.get frame0
  split <;> simp only [get8_rep]

section
variable {β : Type} {r : β}
theorem nthK_some : ∀ {l : List AV} {n : Nat} {k : AV → Option β}, nthK none l n k = some r → ∃ a, l[n]? = some a ∧ k a = some r
  | [], n, k, h => by cases h
  | a :: l, 0, k, h => ⟨a, rfl, h⟩
  | a :: l, n + 1, k, h => by
    obtain ⟨b, h1, h2⟩ := nthK_some (l := l) (n := n) h
    exact ⟨b, by simpa using h1, h2⟩
theorem snthK_some : ∀ {l : List UInt8} {n : Nat} {k : UInt8 → Option β}, snthK none l n k = some r → ∃ a, l[n]? = some a ∧ k a = some r
  | [], n, k, h => by cases h
  | a :: l, 0, k, h => ⟨a, rfl, h⟩
  | a :: l, n + 1, k, h => by
    obtain ⟨b, h1, h2⟩ := snthK_some (l := l) (n := n) h
    exact ⟨b, by simpa using h1, h2⟩
theorem takeK_some : ∀ {l : List AV} {o n : Nat} {k : List AV → Option β}, takeK none l o n k = some r → (o + n ≤ l.length ∨ n = 0) ∧ k ((l.drop o).take n) = some r
  | [], o, 0, k, h => ⟨.inr rfl, by rw [List.take_zero]; exact h⟩
  | [], o, n + 1, k, h => by cases h
  | a :: l, 0, 0, k, h => ⟨.inr rfl, h⟩
  | a :: l, 0, n + 1, k, h => by
    obtain ⟨h1, h2⟩ := takeK_some (l := l) (o := 0) (n := n) (k := fun r => k (a :: r)) h
    refine ⟨.inl ?_, by simpa using h2⟩
    rcases h1 with h1 | h1 <;> simp <;> omega
  | a :: l, o + 1, n, k, h => by
    obtain ⟨h1, h2⟩ := takeK_some (l := l) (o := o) (n := n) (k := k) h
    refine ⟨?_, by simpa using h2⟩
    rcases h1 with h1 | h1
    · exact .inl (by simp; omega)
    · exact .inr h1
/-- A list with some cells laid over. -/
def over (l : List AV) (o : Nat) (vs : List AV) : List AV := l.take o ++ vs ++ l.drop (o + vs.length)
theorem setK_some : ∀ {l : List AV} {o : Nat} {vs : List AV} {k : List AV → Option β}, setK none l o vs k = some r → (o + vs.length ≤ l.length ∨ vs = []) ∧ k (over l o vs) = some r
  | [], o, [], k, h => ⟨.inr rfl, by rw [show over [] o [] = [] by simp [over]]; exact h⟩
  | [], o, v :: vs, k, h => by cases h
  | a :: l, 0, [], k, h => ⟨.inr rfl, by rw [show over (a :: l) 0 [] = a :: l by simp [over]]; exact h⟩
  | a :: l, 0, v :: vs, k, h => by
    obtain ⟨h1, h2⟩ := setK_some (l := l) (o := 0) (vs := vs) (k := fun r => k (v :: r)) h
    refine ⟨.inl ?_, by simpa [over] using h2⟩
    rcases h1 with h1 | h1
    · simp; omega
    · subst h1; simp
  | a :: l, o + 1, vs, k, h => by
    obtain ⟨h1, h2⟩ := setK_some (l := l) (o := o) (vs := vs) (k := fun r => k (a :: r)) h
    refine ⟨?_, ?_⟩
    · rcases h1 with h1 | h1
      · exact .inl (by simp; omega)
      · exact .inr h1
    · have e : over (a :: l) (o + 1) vs = a :: over l o vs := by
        unfold over
        rw [show o + 1 + vs.length = (o + vs.length) + 1 by omega]
        simp
      rw [e]
      exact h2
end

theorem strEq_iff : ∀ {a b : List UInt8}, strEq a b = true ↔ a = b
  | [], [] => ⟨fun _ => rfl, fun _ => rfl⟩
  | [], b :: bs => by constructor <;> intro h <;> cases h
  | a :: l, [] => by constructor <;> intro h <;> cases h
  | a :: l, b :: bs => by
    show ifB (Nat.beq a.toNat b.toNat) (strEq l bs) false = true ↔ _
    constructor
    · intro h
      cases hb : Nat.beq a.toNat b.toNat with
      | false => rw [hb] at h; cases h
      | true =>
        rw [hb] at h
        have h1 := UInt8.toNat_inj.1 (beq_of hb)
        have h2 := strEq_iff.1 h
        rw [h1, h2]
    · intro h
      cases h
      rw [Nat.beq_refl]
      exact strEq_iff.2 rfl
theorem intLt_eq (x y : Int) : intLt x y = decide (x < y) := by
  cases x with
  | ofNat m => cases y with
    | ofNat n =>
      show Nat.ble (m + 1) n = _
      rw [Bool.eq_iff_iff]
      simp
      omega
    | negSucc n => symm; show _ = false; simp; omega
  | negSucc m => cases y with
    | ofNat n => symm; show _ = true; simp; omega
    | negSucc n =>
      show Nat.ble (n + 1) m = _
      rw [Bool.eq_iff_iff]
      simp
      omega
theorem intEq_eq (x y : Int) : intEq x y = (x == y) := by
  cases x with
  | ofNat m => cases y with
    | ofNat n =>
      show Nat.beq m n = _
      rw [Bool.eq_iff_iff]
      simp
      omega
    | negSucc n => rfl
  | negSucc m => cases y with
    | ofNat n => rfl
    | negSucc n =>
      show Nat.beq m n = _
      rw [Bool.eq_iff_iff]
      simp
theorem wrap_in (n : Int) (h1 : -9223372036854775808 ≤ n) (h2 : n ≤ 9223372036854775807) : IntKind.i64.wrap n = n := by
  unfold IntKind.wrap
  simp only [IntKind.bits, IntKind.signed, Bool.true_and]
  split <;> rename_i h <;> simp at h <;> omega
theorem intAdd_eq (x y : Int) : intAdd x y = IntKind.i64.wrap (x + y) := by
  cases x with
  | ofNat m => cases y with
    | ofNat n =>
      show ifB (Nat.ble (m + n) 9223372036854775807) (Int.ofNat (m + n)) (IntKind.i64.wrap (Int.ofNat m + Int.ofNat n)) = _
      cases hb : Nat.ble (m + n) 9223372036854775807 with
      | false => rfl
      | true =>
        have := Nat.le_of_ble_eq_true hb
        rw [wrap_in _ (by simp; omega) (by simp; omega)]
        rfl
    | negSucc n => rfl
  | negSucc m => rfl
theorem intSub_eq (x y : Int) : intSub x y = IntKind.i64.wrap (x - y) := by
  cases x with
  | ofNat m => cases y with
    | ofNat n =>
      show ifB (Nat.ble n m) (ifB (Nat.ble m 9223372036854775807) (Int.ofNat (m - n)) _) _ = _
      cases hb : Nat.ble n m with
      | false => rfl
      | true => cases hc : Nat.ble m 9223372036854775807 with
        | false => rfl
        | true =>
          have h1 := Nat.le_of_ble_eq_true hb
          have h2 := Nat.le_of_ble_eq_true hc
          rw [wrap_in _ (by simp; omega) (by simp; omega)]
          simp
          omega
    | negSucc n => rfl
  | negSucc m => rfl
end Go.Proofs.YtfkdkbekmimhoaaGreatDoor
/- The machine for closed runs: what its values and its memory stand for. -/
namespace Go.Proofs.YtfkdkbekmimhoaaGreatDoor

/-- Where an object lies: its block, the first cell, the block's size, the size of an element. -/
structure Pl where
  blk : Nat
  base : Nat
  sz : Nat
  k : Nat

abbrev Ren := Nat → Option Pl
def Ren.le (r s : Ren) : Prop := ∀ i p, r i = some p → s i = some p
theorem Ren.le_refl (r : Ren) : r.le r := fun _ _ h => h
theorem Ren.le_trans {r s t : Ren} (h : r.le s) (h' : s.le t) : r.le t := fun i p hp => h' i p (h i p hp)
def Ren.set (r : Ren) (i : Nat) (p : Pl) : Ren := fun j => if j = i then some p else r j
theorem Ren.set_same (r : Ren) (i : Nat) (p : Pl) : r.set i p i = some p := if_pos rfl
theorem Ren.le_set {r : Ren} {i : Nat} (p : Pl) (h : r i = none) : r.le (r.set i p) := fun j q hq => by
  unfold Ren.set
  rw [if_neg (fun e => by subst e; rw [h] at hq; cases hq)]
  exact hq

mutual
inductive VR (r : Ren) : AV → Value → Prop
  | int (k : IntKind) (i : Int) : VR r (.int (kindN k) i) (.int k i)
  | bool (b : Bool) : VR r (.bool b) (.bool b)
  | str (s : ByteArray) : VR r (.str s.data.toList) (.string s)
  | pnil : VR r .pnil (.pointer none)
  | ptr {i : Nat} (o : Nat) {p : Pl} (h : r i = some p) : VR r (.ptr i o) (.pointer (some ⟨p.blk, p.base + o, none⟩))
  | snil : VR r .snil (.slice none 0 0)
  | slc {i : Nat} {o n c : Nat} {o' c' : Nat} {p : Pl} (h : r i = some p) (hn : n ≤ c') (hc : c = capU ∨ c = c') (ho : n = 0 ∨ o' = p.base + o) (hs : o' + c' * p.k ≤ p.sz) (hb : p.base ≤ o') (hm : c' ≤ 9223372036854775807) : VR r (.slc i o n c) (.slice (some ⟨p.blk, o', none⟩) n c')
  | mnil : VR r .mnil (.map none)
  | map {i : Nat} {p : Pl} (h : r i = some p) : VR r (.map i) (.map (some p.blk))
  | fnil : VR r .fnil .nilFunc
  | fn (f : Nat) {l : List AV} (a b : Array Value) (h : VRs r l (a.toList ++ b.toList)) : VR r (.fn f a.size l) (.func (.func f) a b)
  | yield {i : Nat} {p : Pl} (h : r i = some p) : VR r (.yield i) (.func (.yield p.blk) #[] #[])
  | agg {l : List AV} (cs : Array Value) (h : VRs r l cs.toList) : VR r (.agg l) (.agg cs)
  | tup {l : List AV} (cs : Array Value) (h : VRs r l cs.toList) : VR r (.tup l) (.tuple cs)
  | junk (v : Value) : VR r .junk v
  | inil : VR r .inil .nilIface
inductive VRs (r : Ren) : List AV → List Value → Prop
  | nil : VRs r [] []
  | cons {a : AV} {v : Value} {l : List AV} {vs : List Value} (h : VR r a v) (t : VRs r l vs) : VRs r (a :: l) (v :: vs)
end

section
variable {r s : Ren}
mutual
theorem VR.mono (h : r.le s) : ∀ {a : AV} {v : Value}, VR r a v → VR s a v
  | _, _, .int k i => .int k i
  | _, _, .bool b => .bool b
  | _, _, .str b => .str b
  | _, _, .pnil => .pnil
  | _, _, .ptr o hp => .ptr o (h _ _ hp)
  | _, _, .snil => .snil
  | _, _, .slc hp hn hc ho hs hb hm => .slc (h _ _ hp) hn hc ho hs hb hm
  | _, _, .mnil => .mnil
  | _, _, .map hp => .map (h _ _ hp)
  | _, _, .fnil => .fnil
  | _, _, .fn f a b hl => .fn f a b (VRs.mono h hl)
  | _, _, .yield hp => .yield (h _ _ hp)
  | _, _, .agg cs hl => .agg cs (VRs.mono h hl)
  | _, _, .tup cs hl => .tup cs (VRs.mono h hl)
  | _, _, .junk v => .junk v
  | _, _, .inil => .inil
theorem VRs.mono (h : r.le s) : ∀ {l : List AV} {vs : List Value}, VRs r l vs → VRs s l vs
  | _, _, .nil => .nil
  | _, _, .cons a b => .cons (VR.mono h a) (VRs.mono h b)
end

theorem VRs.length : ∀ {l : List AV} {vs : List Value}, VRs r l vs → l.length = vs.length
  | _, _, .nil => rfl
  | _, _, .cons _ t => by simp [VRs.length t]
theorem VRs.get : ∀ {l : List AV} {vs : List Value}, VRs r l vs → ∀ {i : Nat} {a : AV}, l[i]? = some a → ∃ v, vs[i]? = some v ∧ VR r a v
  | _, _, .nil, i, a, h => by simp at h
  | _, _, .cons ha t, 0, a, h => by
    simp at h
    subst h
    exact ⟨_, rfl, ha⟩
  | _, _, .cons _ t, i + 1, a, h => by
    obtain ⟨v, h1, h2⟩ := VRs.get t (i := i) (by simpa using h)
    exact ⟨v, by simpa using h1, h2⟩
theorem VRs.append : ∀ {l m : List AV} {vs us : List Value}, VRs r l vs → VRs r m us → VRs r (l ++ m) (vs ++ us)
  | _, _, _, _, .nil, h => h
  | _, _, _, _, .cons a t, h => .cons a (VRs.append t h)
theorem VRs.of_get : ∀ {l : List AV} {vs : List Value}, l.length = vs.length → (∀ (i : Nat) (a : AV) (v : Value), l[i]? = some a → vs[i]? = some v → VR r a v) → VRs r l vs
  | [], [], _, _ => .nil
  | a :: l, [], h, _ => by simp at h
  | [], v :: vs, h, _ => by simp at h
  | a :: l, v :: vs, h, H => .cons (H 0 a v rfl rfl) (VRs.of_get (by simpa using h) fun i a v h1 h2 => H (i + 1) a v (by simpa using h1) (by simpa using h2))
theorem VRs.drop : ∀ {l : List AV} {vs : List Value} (n : Nat), VRs r l vs → VRs r (l.drop n) (vs.drop n)
  | _, _, 0, h => h
  | _, _, n + 1, .nil => .nil
  | _, _, n + 1, .cons _ t => by simpa using VRs.drop n t
theorem VRs.take : ∀ {l : List AV} {vs : List Value} (n : Nat), VRs r l vs → VRs r (l.take n) (vs.take n)
  | _, _, 0, h => .nil
  | _, _, n + 1, .nil => .nil
  | _, _, n + 1, .cons a t => by simpa using VRs.cons a (VRs.take n t)

theorem VR.undef : VR r AV.undef undef := .tup #[] .nil

/-- What a value is, by its tag. -/
theorem VR.inv0 {a : AV} {v : Value} (h : VR r a v) (ht : a.tag = 0) : ∃ k, v = .int k a.i ∧ a.a = kindN k := by
  cases h <;> first | (cases ht; done) | exact ⟨_, rfl, rfl⟩
theorem VR.inv1 {a : AV} {v : Value} (h : VR r a v) (ht : a.tag = 1) : ∃ b : Bool, v = .bool b ∧ a.a = b.toNat := by
  cases h <;> first | (cases ht; done) | exact ⟨_, rfl, rfl⟩
theorem VR.inv2 {a : AV} {v : Value} (h : VR r a v) (ht : a.tag = 2) : ∃ s, v = .string s ∧ a.s = s.data.toList := by
  cases h <;> first | (cases ht; done) | exact ⟨_, rfl, rfl⟩
theorem VR.inv3 {a : AV} {v : Value} (h : VR r a v) (ht : a.tag = 3) (ha : a.a = 1) : ∃ p, r a.b = some p ∧ v = .pointer (some ⟨p.blk, p.base + a.c, none⟩) ∧ a = .ptr a.b a.c := by
  cases h <;> first | (cases ht; done) | (cases ha; done) | exact ⟨_, by assumption, rfl, rfl⟩
theorem VR.inv3n {a : AV} {v : Value} (h : VR r a v) (ht : a.tag = 3) (ha : a.a ≠ 1) : v = .pointer none ∧ a = .pnil := by
  cases h <;> first | (cases ht; done) | exact absurd rfl ha | exact ⟨rfl, rfl⟩
theorem VR.inv4 {a : AV} {v : Value} (h : VR r a v) (ht : a.tag = 4) (ha : a.a = 1) : ∃ p o' c', r a.b = some p ∧ v = .slice (some ⟨p.blk, o', none⟩) a.d c' ∧ a.d ≤ c' ∧ (a.e = capU ∨ a.e = c') ∧ (a.d = 0 ∨ o' = p.base + a.c) ∧ o' + c' * p.k ≤ p.sz ∧ p.base ≤ o' ∧ c' ≤ 9223372036854775807 := by
  cases h <;> first | (cases ht; done) | (cases ha; done) | exact ⟨_, _, _, by assumption, rfl, by assumption, by assumption, by assumption, by assumption, by assumption, by assumption⟩
theorem VR.inv4n {a : AV} {v : Value} (h : VR r a v) (ht : a.tag = 4) (ha : a.a ≠ 1) : v = .slice none 0 0 ∧ a = .snil := by
  cases h <;> first | (cases ht; done) | exact absurd rfl ha | exact ⟨rfl, rfl⟩
theorem VR.inv5 {a : AV} {v : Value} (h : VR r a v) (ht : a.tag = 5) (ha : a.a = 1) : ∃ p, r a.b = some p ∧ v = .map (some p.blk) := by
  cases h <;> first | (cases ht; done) | (cases ha; done) | exact ⟨_, by assumption, rfl⟩
theorem VR.inv5n {a : AV} {v : Value} (h : VR r a v) (ht : a.tag = 5) (ha : a.a ≠ 1) : v = .map none ∧ a = .mnil := by
  cases h <;> first | (cases ht; done) | exact absurd rfl ha | exact ⟨rfl, rfl⟩
theorem VR.inv6 {a : AV} {v : Value} (h : VR r a v) (ht : a.tag = 6) (ha : a.a = 1) : ∃ x y : Array Value, v = .func (.func a.b) x y ∧ a.c = x.size ∧ VRs r a.l (x.toList ++ y.toList) := by
  cases h <;> first | (cases ht; done) | (cases ha; done) | exact ⟨_, _, rfl, rfl, by assumption⟩
theorem VR.inv6y {a : AV} {v : Value} (h : VR r a v) (ht : a.tag = 6) (ha : a.a = 2) : ∃ p, r a.b = some p ∧ v = .func (.yield p.blk) #[] #[] := by
  cases h <;> first | (cases ht; done) | (cases ha; done) | exact ⟨_, by assumption, rfl⟩
theorem VR.inv6n {a : AV} {v : Value} (h : VR r a v) (ht : a.tag = 6) (ha : a.a = 0) : v = .nilFunc := by
  cases h <;> first | (cases ht; done) | (cases ha; done) | rfl
theorem VR.inv6f {a : AV} {v : Value} (h : VR r a v) (ht : a.tag = 6) (ha : a.a ≠ 0) : ∃ f x y, v = .func f x y ∧ ((∃ n, f = .func n) ∨ ∃ n, f = .yield n) := by
  cases h <;> first | (cases ht; done) | exact absurd rfl ha | exact ⟨_, _, _, rfl, .inl ⟨_, rfl⟩⟩ | exact ⟨_, _, _, rfl, .inr ⟨_, rfl⟩⟩
theorem VR.inv7 {a : AV} {v : Value} (h : VR r a v) (ht : a.tag = 7) : ∃ cs : Array Value, v = .agg cs ∧ VRs r a.l cs.toList := by
  cases h <;> first | (cases ht; done) | exact ⟨_, rfl, by assumption⟩
theorem VR.inv8 {a : AV} {v : Value} (h : VR r a v) (ht : a.tag = 8) : ∃ cs : Array Value, v = .tuple cs ∧ VRs r a.l cs.toList := by
  cases h <;> first | (cases ht; done) | exact ⟨_, rfl, by assumption⟩
theorem VR.one {a : AV} {v : Value} (h : VR r a v) (ht : a.tag ≤ 6) : v.oneCell' = true ∧ v.cells = #[v] := by
  cases h <;> first | exact ⟨rfl, rfl⟩ | (simp [AV.agg, AV.tup, AV.junk] at ht; done)
/-- The cells of a value. -/
theorem VR.cells {a : AV} {v : Value} (h : VR r a v) (ht : a.tag ≤ 7) : VRs r (cellsOfV a) v.cells.toList := by
  by_cases h7 : a.tag = 7
  · obtain ⟨cs, rfl, hl⟩ := h.inv7 h7
    unfold cellsOfV
    rw [h7]
    exact hl
  · have h2 := (h.one (by omega)).2
    rw [h2]
    unfold cellsOfV
    have : Nat.beq a.tag 7 = false := by
      cases hb : Nat.beq a.tag 7
      · rfl
      · exact absurd (beq_of hb) h7
    rw [this]
    exact .cons h .nil
end

theorem kindOf_kindN (k : IntKind) : kindOf (kindN k) = k := by cases k <;> rfl
theorem kindN_inj {k k' : IntKind} (h : kindN k = kindN k') : k = k' := by rw [← kindOf_kindN k, h, kindOf_kindN]

theorem VR_ofV1 (r : Ren) (v : Value) : VR r (ofV1 v) v := by
  unfold ofV1
  split <;> try (first | constructor | skip; done)
  all_goals first
    | exact .int _ _
    | exact .junk _
    | skip
  · rename_i f a b
    split
    · rename_i h1 h2
      have ha : a = #[] := by simpa using h1
      have hb : b = #[] := by simpa using h2
      subst ha hb
      exact .fn f #[] #[] .nil
    · exact .junk _
theorem VRs_ofV1 (r : Ren) : ∀ (l : List Value), VRs r (l.map ofV1) l
  | [] => .nil
  | v :: l => .cons (VR_ofV1 r v) (VRs_ofV1 r l)
theorem VR_ofV (r : Ren) (v : Value) : VR r (ofV v) v := by
  unfold ofV
  split
  · exact .agg _ (VRs_ofV1 r _)
  · exact .tup _ (VRs_ofV1 r _)
  · exact VR_ofV1 r v

theorem toV1_eq {r : Ren} {a : AV} {v x : Value} (h : VR r a v) (hx : toV1 a = some x) : v = x := by
  cases h <;> simp only [toV1, AV.int, AV.bool, AV.str, AV.pnil, AV.ptr, AV.snil, AV.slc, AV.mnil, AV.map, AV.fnil, AV.fn, AV.yield, AV.agg, AV.tup, AV.junk, AV.inil] at hx <;> first
    | (cases hx; done)
    | (rw [kindOf_kindN] at hx; exact Option.some.inj hx)
    | exact Option.some.inj hx
    | skip
  rename_i b
  cases b <;> exact Option.some.inj hx
theorem toVs_eq {r : Ren} : ∀ {l : List AV} {vs xs : List Value}, VRs r l vs → toVs l = some xs → vs = xs
  | _, _, xs, .nil, h => by simpa [toVs] using h
  | _, _, xs, .cons (a := a) (l := l) ha t, h => by
    unfold toVs at h
    cases h1 : toV1 a with
    | none => rw [h1] at h; cases h
    | some x =>
      rw [h1] at h
      simp only at h
      cases h2 : toVs l with
      | none => rw [h2] at h; cases h
      | some ys =>
        rw [h2] at h
        cases h
        rw [toV1_eq ha h1, toVs_eq t h2]
theorem toV_eq {r : Ren} {a : AV} {v x : Value} (h : VR r a v) (hx : toV a = some x) : v = x := by
  unfold toV at hx
  split at hx
  · rename_i ht
    obtain ⟨cs, rfl, hl⟩ := h.inv7 ht
    cases h1 : toVs a.l with
    | none => rw [h1] at hx; cases hx
    | some ys =>
      rw [h1] at hx
      cases hx
      rw [← toVs_eq hl h1]
  · rename_i ht
    obtain ⟨cs, rfl, hl⟩ := h.inv8 ht
    cases h1 : toVs a.l with
    | none => rw [h1] at hx; cases hx
    | some ys =>
      rw [h1] at hx
      cases hx
      rw [← toVs_eq hl h1]
  · exact toV1_eq h hx
end Go.Proofs.YtfkdkbekmimhoaaGreatDoor
