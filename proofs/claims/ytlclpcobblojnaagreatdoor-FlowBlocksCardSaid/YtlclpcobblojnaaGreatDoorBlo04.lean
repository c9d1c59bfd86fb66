/- FlowBlocks: for every flow the law returns true and its argument reads as before; no condition but that the listed tables are laid, which the card ties to the text. Part 4 of 8. -/
import Derived.Test.YtlclpcobblojnaaGreatDoorBlo03
import Derived.CallsIn
import Derived.Laws.World
import Derived.Laws.Sem
import Derived.Laws.Cells
import Derived.Laws.IdiomCopy
/- A machine of its own for closed runs, made for the kernel: values are records, frames are pairs, code turned into functions, what comes next handed on. Definitions. -/
namespace Go.Proofs.YtlclpcobblojnaaGreatDoor

/-- A value: tag 0 integer (a: kind, i), 1 bool (a), 2 string (s), 3 pointer (a: not nil, b block, c offset), 4 slice (a: not nil, b, c, d length, e capacity), 5 map (a, b), 6 function (a: 0 nil, 1 function b with l bound, c of them ahead of the arguments, 2 yield of loop b), 7 cells, 8 tuple, 9 nothing is said. -/
structure AV where
  tag : Nat
  a : Nat
  b : Nat
  c : Nat
  d : Nat
  e : Nat
  i : Int
  s : List UInt8
  l : List AV

instance : Inhabited AV := ⟨⟨9, 0, 0, 0, 0, 0, 0, [], []⟩⟩

def AV.int (k : Nat) (i : Int) : AV := ⟨0, k, 0, 0, 0, 0, i, [], []⟩
def AV.bool (b : Bool) : AV := ⟨1, b.toNat, 0, 0, 0, 0, 0, [], []⟩
def AV.str (s : List UInt8) : AV := ⟨2, 0, 0, 0, 0, 0, 0, s, []⟩
def AV.ptr (b c : Nat) : AV := ⟨3, 1, b, c, 0, 0, 0, [], []⟩
def AV.pnil : AV := ⟨3, 0, 0, 0, 0, 0, 0, [], []⟩
def AV.slc (b c d e : Nat) : AV := ⟨4, 1, b, c, d, e, 0, [], []⟩
def AV.snil : AV := ⟨4, 0, 0, 0, 0, 0, 0, [], []⟩
def AV.map (b : Nat) : AV := ⟨5, 1, b, 0, 0, 0, 0, [], []⟩
def AV.mnil : AV := ⟨5, 0, 0, 0, 0, 0, 0, [], []⟩
def AV.fn (f n : Nat) (l : List AV) : AV := ⟨6, 1, f, n, 0, 0, 0, [], l⟩
def AV.fnil : AV := ⟨6, 0, 0, 0, 0, 0, 0, [], []⟩
def AV.yield (b : Nat) : AV := ⟨6, 2, b, 0, 0, 0, 0, [], []⟩
def AV.agg (l : List AV) : AV := ⟨7, 0, 0, 0, 0, 0, 0, [], l⟩
def AV.tup (l : List AV) : AV := ⟨8, 0, 0, 0, 0, 0, 0, [], l⟩
def AV.junk : AV := ⟨9, 0, 0, 0, 0, 0, 0, [], []⟩
def AV.undef : AV := AV.tup []

/-- A thing in a box: the kernel keeps what a closed box holds. -/
structure Bx (α : Type) where
  f : α

/-- Eight things. -/
structure N8 (α : Type) where
  f0 : α
  f1 : α
  f2 : α
  f3 : α
  f4 : α
  f5 : α
  f6 : α
  f7 : α

def sel8 {α β : Type} (i : Nat) (k : (N8 α → α) → β) : β :=
  match i with
  | 0 => k N8.f0 | 1 => k N8.f1 | 2 => k N8.f2 | 3 => k N8.f3 | 4 => k N8.f4 | 5 => k N8.f5 | 6 => k N8.f6 | _ => k N8.f7
def put8 {α β : Type} (i : Nat) (k : (N8 α → α → N8 α) → β) : β :=
  match i with
  | 0 => k fun t v => ⟨v, t.f1, t.f2, t.f3, t.f4, t.f5, t.f6, t.f7⟩
  | 1 => k fun t v => ⟨t.f0, v, t.f2, t.f3, t.f4, t.f5, t.f6, t.f7⟩
  | 2 => k fun t v => ⟨t.f0, t.f1, v, t.f3, t.f4, t.f5, t.f6, t.f7⟩
  | 3 => k fun t v => ⟨t.f0, t.f1, t.f2, v, t.f4, t.f5, t.f6, t.f7⟩
  | 4 => k fun t v => ⟨t.f0, t.f1, t.f2, t.f3, v, t.f5, t.f6, t.f7⟩
  | 5 => k fun t v => ⟨t.f0, t.f1, t.f2, t.f3, t.f4, v, t.f6, t.f7⟩
  | 6 => k fun t v => ⟨t.f0, t.f1, t.f2, t.f3, t.f4, t.f5, v, t.f7⟩
  | _ => k fun t v => ⟨t.f0, t.f1, t.f2, t.f3, t.f4, t.f5, t.f6, v⟩
def rep8 {α : Type} (a : α) : N8 α := ⟨a, a, a, a, a, a, a, a⟩

/-- A frame: 64 slots, and 512 more. -/
structure Fr where
  lo : N8 (N8 AV)
  hi : N8 (N8 (N8 AV))
def frame0 : Fr := ⟨rep8 (rep8 AV.undef), rep8 (rep8 (rep8 AV.undef))⟩

def getF (i : Nat) : Bx (Fr → AV) :=
  match Nat.blt i 64 with
  | true => sel8 (i / 8) fun g => sel8 (i % 8) fun f => ⟨fun t => f (g t.lo)⟩
  | false => sel8 ((i - 64) / 64) fun g => sel8 ((i - 64) / 8 % 8) fun f => sel8 ((i - 64) % 8) fun e => ⟨fun t => e (f (g t.hi))⟩
def setF (i : Nat) : Bx (Fr → AV → Fr) :=
  match Nat.blt i 64 with
  | true => sel8 (i / 8) fun g => put8 (i / 8) fun G => put8 (i % 8) fun F => ⟨fun t v => ⟨G t.lo (F (g t.lo) v), t.hi⟩⟩
  | false => sel8 ((i - 64) / 64) fun g => put8 ((i - 64) / 64) fun G => sel8 ((i - 64) / 8 % 8) fun f => put8 ((i - 64) / 8 % 8) fun F => put8 ((i - 64) % 8) fun E =>
    ⟨fun t v => ⟨t.lo, G t.hi (F (g t.hi) (E (f (g t.hi)) v))⟩⟩

structure ME where
  key : AV
  val : AV
  born : Nat

/-- An object: cells; a map whose entries lie as they lie in memory; a map that is only looked up; an iterator over a map; the record of a loop over a function. -/
structure OB where
  kind : Nat   -- 0 cells, 1 map, 2 literal, 3 iterator, 4 loop
  n : Nat      -- element type · clock · · map · what a round left (0 nothing, 1 an exit, 2 a return)
  m : Nat      -- · · · since · state (0 ready, 1 busy, 2 done, 3 exhausted)
  cs : List AV
  es : List ME
  ns : List Nat   -- seen · the exit
  lp : Option (Nat × Fr × List Tmp × Code × Code)

def OB.arr (cs : List AV) (e : Nat) : OB := ⟨0, e, 0, cs, [], [], none⟩
def OB.map (es : List ME) (c : Nat) : OB := ⟨1, c, 0, [], es, [], none⟩
def OB.lit (es : List ME) : OB := ⟨2, 0, 0, [], es, [], none⟩
def OB.iter (m since : Nat) (seen : List Nat) : OB := ⟨3, m, since, [], [], seen, none⟩
def OB.loop (x o st : Nat) (lp : Nat × Fr × List Tmp × Code × Code) : OB := ⟨4, x, st, [], [], [o], some lp⟩

--{REC
noncomputable def ifB {α : Type} (b : Bool) (x y : α) : α := Bool.rec y x b
theorem ifB_true {α : Type} (x y : α) : ifB true x y = x := rfl
theorem ifB_false {α : Type} (x y : α) : ifB false x y = y := rfl

inductive Trie where
  | nil
  | node (v : Option OB) (l r : Trie)
noncomputable def Trie.get (t : Trie) : Nat → Option OB :=
  Trie.rec (motive := fun _ => Nat → Option OB) (fun _ => none) (fun v _ _ ihl ihr n => ifB (Nat.beq n 0) v (ifB (Nat.beq (n % 2) 1) (ihl (n / 2)) (ihr (n / 2 - 1)))) t
def Trie.v : Trie → Option OB
  | .nil => none
  | .node v _ _ => v
def Trie.l : Trie → Trie
  | .nil => .nil
  | .node _ l _ => l
def Trie.r : Trie → Trie
  | .nil => .nil
  | .node _ _ r => r
noncomputable def Trie.put (o : Option OB) (d : Nat) : Trie → Nat → Trie :=
  Nat.rec (motive := fun _ => Trie → Nat → Trie) (fun t _ => t) (fun _ ih t n => ifB (Nat.beq n 0) (.node o t.l t.r) (ifB (Nat.beq (n % 2) 1) (.node t.v (ih t.l (n / 2)) t.r) (.node t.v t.l (ih t.r (n / 2 - 1))))) d

section
variable {R : Type}
noncomputable def nthK (no : R) (l : List AV) : Nat → (AV → R) → R :=
  List.rec (motive := fun _ => Nat → (AV → R) → R) (fun _ _ => no) (fun a _ ih n k => Nat.rec (motive := fun _ => R) (k a) (fun j _ => ih j k) n) l
noncomputable def snthK (no : R) (l : List UInt8) : Nat → (UInt8 → R) → R :=
  List.rec (motive := fun _ => Nat → (UInt8 → R) → R) (fun _ _ => no) (fun a _ ih n k => Nat.rec (motive := fun _ => R) (k a) (fun j _ => ih j k) n) l
/-- n cells from o on. -/
noncomputable def takeK (no : R) (l : List AV) : Nat → Nat → (List AV → R) → R :=
  List.rec (motive := fun _ => Nat → Nat → (List AV → R) → R) (fun _ n k => Nat.rec (motive := fun _ => R) (k []) (fun _ _ => no) n)
    (fun a _ ih o n k => Nat.rec (motive := fun _ => R) (Nat.rec (motive := fun _ => R) (k []) (fun m _ => ih 0 m (fun r => k (a :: r))) n) (fun j _ => ih j n k) o) l
noncomputable def setK (no : R) (l : List AV) : Nat → List AV → (List AV → R) → R :=
  List.rec (motive := fun _ => Nat → List AV → (List AV → R) → R) (fun _ vs k => List.rec (motive := fun _ => R) (k []) (fun _ _ _ => no) vs)
    (fun a xs ih o vs k => Nat.rec (motive := fun _ => R) (List.rec (motive := fun _ => R) (k (a :: xs)) (fun v vs _ => ih 0 vs (fun r => k (v :: r))) vs) (fun j _ => ih j vs (fun r => k (a :: r))) o) l
/-- At most n turns of a loop. -/
noncomputable def loopK {T H O : Type} (no : R) (f : T → H → (Nat → O → T → H → R) → R) (n : Nat) : T → H → (Nat → O → T → H → R) → R :=
  Nat.rec (motive := fun _ => T → H → (Nat → O → T → H → R) → R) (fun _ _ _ => no) (fun _ ih t h k => f t h fun x o t h => ifB (Nat.beq x 0) (ih t h k) (k x o t h)) n
end
noncomputable def nthN {R : Type} (l : List Nat) (k : Nat → Option R) : Option R := List.rec (motive := fun _ => Option R) none (fun a _ _ => k a) l
noncomputable def strEq (l : List UInt8) : List UInt8 → Bool :=
  List.rec (motive := fun _ => List UInt8 → Bool) (fun m => List.rec (motive := fun _ => Bool) true (fun _ _ _ => false) m) (fun a _ ih m => List.rec (motive := fun _ => Bool) false (fun b bs _ => ifB (Nat.beq a.toNat b.toNat) (ih bs) false) m) l
noncomputable def intLt (x y : Int) : Bool :=
  Int.rec (motive := fun _ => Bool) (fun m => Int.rec (motive := fun _ => Bool) (fun n => Nat.ble (m + 1) n) (fun _ => false) y) (fun m => Int.rec (motive := fun _ => Bool) (fun _ => true) (fun n => Nat.ble (n + 1) m) y) x
noncomputable def intEq (x y : Int) : Bool :=
  Int.rec (motive := fun _ => Bool) (fun m => Int.rec (motive := fun _ => Bool) (fun n => Nat.beq m n) (fun _ => false) y) (fun m => Int.rec (motive := fun _ => Bool) (fun _ => false) (fun n => Nat.beq m n) y) x
noncomputable def intAdd (x y : Int) : Int :=
  Int.rec (motive := fun _ => Int) (fun m => Int.rec (motive := fun _ => Int) (fun n => ifB (Nat.ble (m + n) 9223372036854775807) (Int.ofNat (m + n)) (IntKind.i64.wrap (x + y))) (fun _ => IntKind.i64.wrap (x + y)) y) (fun _ => IntKind.i64.wrap (x + y)) x
noncomputable def intSub (x y : Int) : Int :=
  Int.rec (motive := fun _ => Int) (fun m => Int.rec (motive := fun _ => Int) (fun n => ifB (Nat.ble n m) (ifB (Nat.ble m 9223372036854775807) (Int.ofNat (m - n)) (IntKind.i64.wrap (x - y))) (IntKind.i64.wrap (x - y))) (fun _ => IntKind.i64.wrap (x - y)) y) (fun _ => IntKind.i64.wrap (x - y)) x
/-- A natural number, or nothing. -/
noncomputable def natK {R : Type} (no : R) (i : Int) (k : Nat → R) : R := Int.rec (motive := fun _ => R) k (fun _ => no) i
noncomputable def optK {α R : Type} (no : R) (x : Option α) (k : α → R) : R := Option.rec (motive := fun _ => R) no k x
--}REC

structure AH where
  t : Trie
  next : Nat

noncomputable def AH.get (h : AH) (i : Nat) : Option OB := h.t.get i
noncomputable def AH.put (h : AH) (i : Nat) (o : Option OB) : AH := ⟨Trie.put o 24 h.t i, h.next⟩
noncomputable def AH.new (h : AH) (o : OB) : AH := ⟨Trie.put (some o) 24 h.t h.next, h.next + 1⟩

abbrev R := Option (AV × AH)

def kindN : IntKind → Nat
  | .i64 => 0 | .u8 => 1 | .i8 => 2 | .i16 => 3 | .i32 => 4 | .u16 => 5 | .u32 => 6 | .u64 => 7
def kindOf : Nat → IntKind
  | 0 => .i64 | 1 => .u8 | 2 => .i8 | 3 => .i16 | 4 => .i32 | 5 => .u16 | 6 => .u32 | _ => .u64

/-- Values that name no memory, from the model's values and back. -/
def ofV1 : Value → AV
  | .bool b => .bool b
  | .int k n => .int (kindN k) n
  | .string s => .str s.data.toList
  | .pointer none => .pnil
  | .slice none 0 0 => .snil
  | .map none => .mnil
  | .nilFunc => .fnil
  | .func (.func f) a b => match a.toList, b.toList with
    | [], [] => .fn f 0 []
    | _, _ => .junk
  | _ => .junk
def ofV : Value → AV
  | .agg cs => .agg (cs.toList.map ofV1)
  | .tuple cs => .tup (cs.toList.map ofV1)
  | v => ofV1 v
def toV1 (v : AV) : Option Value :=
  match v.tag, v.a with
  | 0, a => some (.int (kindOf a) v.i)
  | 1, 0 => some (.bool false)
  | 1, 1 => some (.bool true)
  | 2, _ => some (.string ⟨v.s.toArray⟩)
  | 3, 0 => some (.pointer none)
  | 4, 0 => some (.slice none 0 0)
  | 5, 0 => some (.map none)
  | 6, 0 => some .nilFunc
  | _, _ => none
def toVs : List AV → Option (List Value)
  | [] => some []
  | v :: l => match toV1 v with
    | some x => (toVs l).map (x :: ·)
    | none => none
def toV (v : AV) : Option Value :=
  match v.tag with
  | 7 => (toVs v.l).map fun l => .agg l.toArray
  | 8 => (toVs v.l).map fun l => .tuple l.toArray
  | _ => toV1 v

def evB : Operand → Bx (Fr → AV)
  | .tmp i => match Nat.blt i 512 with
    | true => getF i
    | false => ⟨fun _ => .junk⟩
  | .const v => ⟨fun _ => ofV v⟩
  | .func f => ⟨fun _ => .fn f 0 []⟩
  | .global _ => ⟨fun _ => .junk⟩

def semEv {α : Type} (P : Program) : Sem α → Option α
  | .pure a => some a
  | .program k => semEv P (k P)
  | .mark _ k => semEv P k
  | _ => none

def aggA (P : Program) (t : TypeId) : Option Bool :=
  match P.underlying t with
  | some (.struct _) | some (.array _ _) => some true
  | some _ => some false
  | none => none
def szA (P : Program) (t : TypeId) : Option Nat := (P.info? t).map (·.size)

abbrev KV := AV → AH → R
/-- What an operation does that calls nothing. -/
abbrev OpT := Fr → AH → KV → R

/-- A part: of so many cells (some n), or one cell. -/
noncomputable def partC (n : Nat) (l : List AV) (o : Nat) (k : AV → R) : R := takeK none l o n fun r => k (.agg r)
noncomputable def partS (l : List AV) (o : Nat) (k : AV → R) : R := nthK none l o k
/-- How a part of a type is read. -/
noncomputable def partB (P : Program) (t : TypeId) : Bx (List AV → Nat → (AV → R) → R) :=
  match aggA P t, szA P t with
  | some true, some n => ⟨partC n⟩
  | some false, _ => ⟨partS⟩
  | _, _ => ⟨fun _ _ _ => none⟩

/-- The cells behind a pointer. -/
noncomputable def cellsK (h : AH) (p : AV) (k : OB → R) : R :=
  ifB (Nat.beq p.tag 3) (ifB (Nat.beq p.a 1) (optK none (h.get p.b) fun o => ifB (Nat.beq o.kind 0) (k o) none) none) none

def capU : Nat := 18446744073709551616

noncomputable def cellsOfV (v : AV) : List AV := ifB (Nat.beq v.tag 7) v.l [v]
def oneCellN (v : AV) : Bool := Nat.ble v.tag 6

noncomputable def failB : Bx OpT := ⟨fun _ _ _ => none⟩

noncomputable def moveC (x : Fr → AV) : OpT := fun t h k => k (x t) h
noncomputable def pickC (c x y : Fr → AV) : OpT := fun t h k => ifB (Nat.beq (c t).tag 1) (ifB (Nat.beq (c t).a 1) (k (x t) h) (k (y t) h)) none
noncomputable def allocC (z : List AV) (e : Nat) : OpT := fun _ h k => k (.ptr h.next 0) (h.new (.arr z e))
noncomputable def boxC (x : Fr → AV) (e : Nat) : OpT := fun t h k => ifB (Nat.ble (x t).tag 7) (k (.ptr h.next 0) (h.new (.arr (cellsOfV (x t)) e))) none
noncomputable def loadC (x : Fr → AV) (part : List AV → Nat → (AV → R) → R) : OpT := fun t h k => cellsK h (x t) fun o => part o.cs (x t).c fun v => k v h
noncomputable def storeOk (sz : Nat) (v : AV) (yes no : R) : R := ifB (Nat.beq (cellsOfV v).length sz) (ifB ((cellsOfV v).all oneCellN) yes no) no
noncomputable def storeC (x y : Fr → AV) (sz : Nat) : OpT := fun t h k => storeOk sz (y t) (cellsK h (x t) fun o => setK none o.cs (x t).c (cellsOfV (y t)) fun r => k .undef (h.put (x t).b (some (.arr r o.n)))) none
noncomputable def store1C (x y : Fr → AV) : OpT := fun t h k => ifB (oneCellN (y t)) (cellsK h (x t) fun o => setK none o.cs (x t).c [y t] fun r => k .undef (h.put (x t).b (some (.arr r o.n)))) none
noncomputable def nilC (x : Fr → AV) : OpT := fun t h k => ifB (Nat.beq (x t).tag 3) (ifB (Nat.beq (x t).a 1) (k (x t) h) none) (ifB (Nat.beq (x t).tag 6) (ifB (Nat.beq (x t).a 0) none (k (x t) h)) none)
noncomputable def fieldAddrC (x : Fr → AV) (o : Nat) : OpT := fun t h k => ifB (Nat.beq (x t).tag 3) (ifB (Nat.beq (x t).a 1) (k (.ptr (x t).b ((x t).c + o)) h) none) none
noncomputable def fieldC (x : Fr → AV) (part : List AV → Nat → (AV → R) → R) (o : Nat) : OpT := fun t h k => ifB (Nat.beq (x t).tag 7) (part (x t).l o fun v => k v h) none
noncomputable def indexAddrC (x i : Fr → AV) (s : Nat) : OpT := fun t h k => ifB (Nat.beq (x t).tag 4) (ifB (Nat.beq (x t).a 1) (ifB (Nat.beq (i t).tag 0) (natK none (i t).i fun n => ifB (Nat.ble (n + 1) (x t).d) (k (.ptr (x t).b ((x t).c + n * s)) h) none) none) none) none
noncomputable def sindexC (x i : Fr → AV) : OpT := fun t h k => ifB (Nat.beq (x t).tag 2) (ifB (Nat.beq (i t).tag 0) (natK none (i t).i fun n => snthK none (x t).s n fun b => k (.int 1 b.toNat) h) none) none
noncomputable def extractC (x : Fr → AV) (i : Nat) : OpT := fun t h k => ifB (Nat.beq (x t).tag 8) (nthK none (x t).l i fun v => k v h) none
noncomputable def notC (x : Fr → AV) : OpT := fun t h k => ifB (Nat.beq (x t).tag 1) (k (.bool (Nat.beq (x t).a 0)) h) none
noncomputable def lenC (x : Fr → AV) : OpT := fun t h k => ifB (Nat.beq (x t).tag 4) (k (.int 0 (x t).d) h) none
noncomputable def slenC (x : Fr → AV) : OpT := fun t h k => ifB (Nat.beq (x t).tag 2) (k (.int 0 (x t).s.length) h) none
noncomputable def mlenC (x : Fr → AV) : OpT := fun t h k => ifB (Nat.beq (x t).tag 5) (ifB (Nat.beq (x t).a 0) (k (.int 0 0) h) (optK none (h.get (x t).b) fun o => ifB (Nat.beq o.kind 1) (k (.int 0 o.es.length) h) none)) none

/-- Both are integers of one kind. -/
noncomputable def intsK (x y : AV) (k : R) : R := ifB (Nat.beq x.tag 0) (ifB (Nat.beq y.tag 0) (ifB (Nat.beq x.a y.a) k none) none) none
noncomputable def cmpC (f : Int → Int → Bool) (x y : Fr → AV) : OpT := fun t h k => intsK (x t) (y t) (k (.bool (f (x t).i (y t).i)) h)
noncomputable def arithC (f : Int → Int → Int) (x y : Fr → AV) : OpT := fun t h k => ifB (Nat.beq (x t).a 0) (intsK (x t) (y t) (k (.int 0 (f (x t).i (y t).i)) h)) none
/-- Equal (or not), of one tag: integers, bools, strings; anything with nil. -/
noncomputable def eqI (x y : AV) (k : Bool → R) : R := ifB (Nat.beq x.tag 0) (ifB (Nat.beq y.tag 0) (ifB (Nat.beq x.a y.a) (k (intEq x.i y.i)) none) none) none
noncomputable def eqS (x y : AV) (k : Bool → R) : R := ifB (Nat.beq x.tag 2) (ifB (Nat.beq y.tag 2) (k (strEq x.s y.s)) none) none
noncomputable def eqB (x y : AV) (k : Bool → R) : R := ifB (Nat.beq x.tag 1) (ifB (Nat.beq y.tag 1) (k (Nat.beq x.a y.a)) none) none
noncomputable def eqN (T : Nat) (x y : AV) (k : Bool → R) : R := ifB (Nat.beq x.tag T) (ifB (Nat.beq y.tag T) (ifB (Nat.beq x.a 0) (k (Nat.beq y.a 0)) (ifB (Nat.beq y.a 0) (k false) none)) none) none
noncomputable def eqC (eq : AV → AV → (Bool → R) → R) (x y : Fr → AV) : OpT := fun t h k => eq (x t) (y t) fun b => k (.bool b) h
noncomputable def neC (eq : AV → AV → (Bool → R) → R) (x y : Fr → AV) : OpT := fun t h k => eq (x t) (y t) fun b => k (.bool (ifB b false true)) h
noncomputable def eqOf (d : TypeDesc) : Option (Bx (AV → AV → (Bool → R) → R)) :=
  match d with
  | .int _ => some ⟨eqI⟩ | .string => some ⟨eqS⟩ | .bool => some ⟨eqB⟩ | .pointer _ => some ⟨eqN 3⟩ | .slice _ => some ⟨eqN 4⟩ | .map _ _ => some ⟨eqN 5⟩ | .func .. => some ⟨eqN 6⟩
  | _ => none
noncomputable def addStrC (x y : Fr → AV) : OpT := fun t h k => ifB (Nat.beq (x t).tag 2) (ifB (Nat.beq (y t).tag 2) (ifB (Nat.ble ((x t).s.length + (y t).s.length) 1000000) (k (.str ((x t).s ++ (y t).s)) h) none) none) none

/-- Whatever else looks at no memory: as the model has it. -/
noncomputable def pureC (P : Program) (o : Oper) : OpT := fun t h k =>
  ifB (o.op.operands.toList.all fun x => (toV ((evB x).f t)).isSome) (optK none (semEv P (execOp (fun x => (toV ((evB x).f t)).getD undef) o)) fun
    | .value v => ifB ((toV (ofV v)).isSome) (k (ofV v) h) none
    | _ => none) none

noncomputable def fillB (place : Nat → Option (Nat × Nat)) : List (Nat × Operand) → Bx (Fr → List AV → (List AV → R) → R)
  | [] => ⟨fun _ cs k => k cs⟩
  | (i, x) :: rest => match place i with
    | some (off, 1) => ⟨fun t cs k => ifB (oneCellN ((evB x).f t)) (setK none cs off [(evB x).f t] fun r => (fillB place rest).f t r k)
        (ifB (Nat.beq ((evB x).f t).tag 7) (ifB (Nat.beq ((evB x).f t).l.length 1) (setK none cs off ((evB x).f t).l fun r => (fillB place rest).f t r k) none) none)⟩
    | some (off, sz + 2) => ⟨fun t cs k => ifB (Nat.beq ((evB x).f t).tag 7) (ifB (Nat.beq ((evB x).f t).l.length (sz + 2)) (setK none cs off ((evB x).f t).l fun r => (fillB place rest).f t r k) none) none⟩
    | _ => ⟨fun _ _ _ => none⟩

def zeroA (P : Program) (t : TypeId) : Option (List AV) :=
  match P.info? t with
  | some i => match i.zero with
    | some z => some (z.cells.toList.map ofV1)
    | none => none
  | none => none
def zeroVA (P : Program) (t : TypeId) : Option AV :=
  match P.info? t with
  | some i => i.zero.map ofV
  | none => none
/-- Rows of the type: its zero value has as many cells as it says, and is not too large. -/
def okRow (P : Program) (e : TypeId) : Bool :=
  match P.info? e with
  | some i => match i.zero with
    | some z => Nat.beq z.cells.size i.size && Nat.ble i.size 100 && Nat.ble i.bytes 1000 && Nat.ble 1 i.size
    | none => false
  | none => false
def repA (z : List AV) : Nat → List AV
  | 0 => []
  | n + 1 => z ++ repA z n

noncomputable def buildC (z : List AV) (fill : Fr → List AV → (List AV → R) → R) : OpT := fun t h k => fill t z fun cs => k (.agg cs) h
noncomputable def buildSliceC (z : List AV) (e n : Nat) (fill : Fr → List AV → (List AV → R) → R) : OpT := fun t h k => fill t z fun cs => k (.slc h.next 0 n n) (h.new (.arr cs e))

/-- The cells of a slice. -/
noncomputable def rowK (h : AH) (e s : Nat) (v : AV) (k : List AV → R) : R :=
  ifB (Nat.beq v.tag 4) (ifB (Nat.beq v.d 0) (k []) (ifB (Nat.beq v.a 1) (optK none (h.get v.b) fun o => ifB (Nat.beq o.kind 0) (ifB (Nat.beq o.n e) (takeK none o.cs v.c (v.d * s) k) none) none) none)) none
noncomputable def appendK (h : AH) (e s : Nat) (x : AV) (n : Nat) (new : List AV) (k : KV) : R :=
  ifB (Nat.beq n 0) (k x h) (ifB (Nat.ble (x.d + n) 1000000) (ifB (Nat.beq x.a 0) (k (.slc h.next 0 n capU) (h.new (.arr new e)))
    (rowK h e s x fun old => ifB (Nat.ble (x.d + n) x.e)
      (optK none (h.get x.b) fun o => ifB (Nat.beq o.kind 0) (ifB (Nat.beq o.n e) (k (.slc h.next 0 (x.d + n) x.e) ((h.put x.b none).new (.arr (old ++ new) e))) none) none)
      (k (.slc h.next 0 (x.d + n) capU) (h.new (.arr (old ++ new) e))))) none)
noncomputable def appendC (x y : Fr → AV) (e s : Nat) : OpT := fun t h k => ifB (Nat.beq (x t).tag 4) (rowK h e s (y t) fun new => ifB (new.all oneCellN) (appendK h e s (x t) (y t).d new k) none) none

noncomputable def evsB : List Operand → Bx (Fr → List AV)
  | [] => ⟨fun _ => []⟩
  | x :: l => ⟨fun t => (evB x).f t :: (evsB l).f t⟩

/-- The slice's block holds such elements (or it is not asked: l = 0). -/
noncomputable def isRow (h : AH) (e l b : Nat) (k : R) : R := ifB (Nat.beq l 0) k (optK none (h.get b) fun o => ifB (Nat.beq o.kind 0) (ifB (Nat.beq o.n e) k none) none)
/-- The bounds of a slice: the first, the last, the capacity's. -/
noncomputable def boundB (x : Option Operand) : Bx (Fr → Nat → (Nat → R) → R) :=
  match x with
  | none => ⟨fun _ d k => k d⟩
  | some x => ⟨fun t _ k => ifB (Nat.beq ((evB x).f t).tag 0) (natK none ((evB x).f t).i k) none⟩
noncomputable def sliceC (x : Fr → AV) (e s : Nat) (lo hi mx : Fr → Nat → (Nat → R) → R) (full : Bool) : OpT := fun t h k =>
  ifB (Nat.beq (x t).tag 4) (lo t 0 fun l => hi t (x t).d fun n => mx t (x t).d fun m =>
    ifB (Nat.ble l n) (ifB (Nat.ble n m) (ifB (Nat.ble m (x t).d) (ifB (Nat.beq (x t).a 0) (k .snil h)
      (isRow h e l (x t).b (k (.slc (x t).b ((x t).c + l * s) (n - l) (ifB full (m - l) (ifB (Nat.beq (x t).e capU) capU ((x t).e - l)))) h))) none) none) none) none
noncomputable def sstrC (x : Fr → AV) (lo hi : Fr → Nat → (Nat → R) → R) : OpT := fun t h k =>
  ifB (Nat.beq (x t).tag 2) (lo t 0 fun l => hi t (x t).s.length fun n => ifB (Nat.ble l n) (ifB (Nat.ble n (x t).s.length) (k (.str (((x t).s.drop l).take (n - l))) h) none) none) none

noncomputable def keyEq (x y : AV) (k : Bool → R) : R := ifB (Nat.beq x.tag y.tag) (ifB (Nat.beq x.a y.a) (ifB (Nat.beq x.tag 0) (k (intEq x.i y.i)) (ifB (Nat.beq x.tag 2) (k (strEq x.s y.s)) none)) (ifB (Nat.beq x.tag 1) (k false) none)) none
/-- The tag of a type's keys. -/
def keyTag (d : Option TypeDesc) : Option Nat :=
  match d with
  | some (.int _) => some 0
  | some .string => some 2
  | _ => none
--{REC2
noncomputable def findK (key : AV) (es : List ME) : R → (AV → R) → R :=
  List.rec (motive := fun _ => R → (AV → R) → R) (fun no _ => no) (fun e _ ih no yes => keyEq key e.key fun b => ifB b (yes e.val) (ih no yes)) es
noncomputable def updK (key val : AV) (es : List ME) : (List ME → R) → R :=
  List.rec (motive := fun _ => (List ME → R) → R) (fun _ => none) (fun e es ih k => keyEq key e.key fun b => ifB b (k (⟨key, val, e.born⟩ :: es)) (ih fun r => k (e :: r))) es
/-- The entry of a stamp. -/
noncomputable def bornK (b : Nat) (es : List ME) : (ME → R) → R :=
  List.rec (motive := fun _ => (ME → R) → R) (fun _ => none) (fun e _ ih k => ifB (Nat.beq e.born b) (k e) (ih k)) es
/-- The entries that are not seen: none; the only one. -/
noncomputable def leftK (seen : List Nat) (es : List ME) : (none_ : R) → (ME → R) → R :=
  List.rec (motive := fun _ => R → (ME → R) → R) (fun no _ => no) (fun e es ih no one => ifB (seen.elem e.born) (ih no one) (ifB (es.all fun e => seen.elem e.born) (one e) none)) es
--}REC2
noncomputable def lookupC (T : Nat) (x y : Fr → AV) (z : AV) (ok : Bool) : OpT := fun t h k =>
  ifB (Nat.beq (x t).tag 5) (ifB (Nat.beq (y t).tag T)
    (ifB (Nat.beq (x t).a 0) (k (ifB ok (.tup [z, .bool false]) z) h)
      (optK none (h.get (x t).b) fun o => ifB (Nat.beq o.kind 1) (findK (y t) o.es (k (ifB ok (.tup [z, .bool false]) z) h) fun v => k (ifB ok (.tup [v, .bool true]) v) h)
        (ifB (Nat.beq o.kind 2) (findK (y t) o.es (k (ifB ok (.tup [z, .bool false]) z) h) fun v => k (ifB ok (.tup [v, .bool true]) v) h) none))) none) none
noncomputable def updateC (T : Nat) (x y z : Fr → AV) : OpT := fun t h k =>
  ifB (Nat.beq (x t).tag 5) (ifB (Nat.beq (x t).a 1) (ifB (Nat.beq (y t).tag T) (optK none (h.get (x t).b) fun o => ifB (Nat.beq o.kind 1)
    (findK (y t) o.es (k .undef (h.put (x t).b (some (.map (o.es ++ [⟨y t, z t, o.n⟩]) (o.n + 1))))) fun _ => updK (y t) (z t) o.es fun es => k .undef (h.put (x t).b (some (.map es o.n)))) none) none) none) none
noncomputable def rangeC (x : Fr → AV) : OpT := fun t h k =>
  ifB (Nat.beq (x t).tag 5) (ifB (Nat.beq (x t).a 1) (optK none (h.get (x t).b) fun o => ifB (Nat.beq o.kind 1) (k (.ptr h.next 0) (h.new (.iter (x t).b o.n []))) none) none) none
noncomputable def iterK (h : AH) (p : AV) (k : OB → OB → R) : R :=
  ifB (Nat.beq p.tag 3) (ifB (Nat.beq p.a 1) (ifB (Nat.beq p.c 0) (optK none (h.get p.b) fun r => ifB (Nat.beq r.kind 3) (optK none (h.get r.n) fun m => ifB (Nat.beq m.kind 1) (ifB (Nat.beq m.n r.m) (k r m) none) none) none) none) none) none
noncomputable def nextC (x : Fr → AV) : OpT := fun t h k => iterK h (x t) fun r m =>
  leftK r.ns m.es (k (.tup [.bool false]) h) fun e => k (.tup [.bool true, e.key, e.val]) (h.put (x t).b (some (.iter r.n r.m (e.born :: r.ns))))
noncomputable def entryC (x : Fr → AV) : OpT := fun t h k => iterK h (x t) fun r m => match r.ns with
  | b :: _ => bornK b m.es fun e => k (.tup [e.key, e.val]) h
  | [] => none

/-- An operation that calls nothing, as a function of the frame. -/
noncomputable def opB (P : Program) (o : Oper) : Bx OpT :=
  match o.op with
  | .move x | .assign x => ⟨moveC (evB x).f⟩
  | .pick c a b => ⟨pickC (evB c).f (evB a).f (evB b).f⟩
  | .alloc e => match zeroA P e, szA P e with
    | some z, some _ => ⟨allocC z e⟩
    | _, _ => failB
  | .box e x => match szA P e with
    | some _ => ⟨boxC (evB x).f e⟩
    | none => failB
  | .build ty parts => match zeroA P ty, P.underlying ty with
    | some z, some (.struct fs) => match fs.toList.all fun f => (szA P f.type).isSome with
      | false => failB
      | true => ⟨buildC z (fillB (fun i => match fs[i]? with | some f => (szA P f.type).map fun s => (f.offset, s) | none => none) parts.toList).f⟩
    | _, _ => failB
  | .buildSlice ty len parts => match P.underlying ty with
    | some (.slice e) => match zeroA P e, szA P e, okRow P e && Nat.ble len 100000 with
      | some z, some s, true => ⟨buildSliceC (repA z len) e len (fillB (fun i => some (i * s, s)) parts.toList).f⟩
      | _, _, _ => failB
    | _ => failB
  | .load ty a => ⟨loadC (evB a).f (partB P ty).f⟩
  | .store ty a x => match aggA P ty, szA P ty with
    | some false, some 1 => ⟨store1C (evB a).f (evB x).f⟩
    | _, some s => ⟨storeC (evB a).f (evB x).f s⟩
    | _, none => failB
  | .nilCheck x => ⟨nilC (evB x).f⟩
  | .binOp op ty x y _ => match op, P.underlying ty with
    | .add, some (.int .i64) => ⟨arithC intAdd (evB x).f (evB y).f⟩
    | .sub, some (.int .i64) => ⟨arithC intSub (evB x).f (evB y).f⟩
    | .lss, some (.int _) => ⟨cmpC intLt (evB x).f (evB y).f⟩
    | .gtr, some (.int _) => ⟨cmpC (fun a b => intLt b a) (evB x).f (evB y).f⟩
    | .leq, some (.int _) => ⟨cmpC (fun a b => ifB (intLt b a) false true) (evB x).f (evB y).f⟩
    | .geq, some (.int _) => ⟨cmpC (fun a b => ifB (intLt a b) false true) (evB x).f (evB y).f⟩
    | .add, some .string => ⟨addStrC (evB x).f (evB y).f⟩
    | .eql, some d => match eqOf d with
      | some f => ⟨eqC f.f (evB x).f (evB y).f⟩
      | none => ⟨pureC P o⟩
    | .neq, some d => match eqOf d with
      | some f => ⟨neC f.f (evB x).f (evB y).f⟩
      | none => ⟨pureC P o⟩
    | _, _ => ⟨pureC P o⟩
  | .unOp .not _ x => ⟨notC (evB x).f⟩
  | .convert src dst x => match P.underlying src, P.underlying dst with
    | some .string, some (.slice e) => match P.underlying e with
      | some (.int .u8) => match szA P e with
        | some 1 => ⟨fun t h k => ifB (Nat.beq ((evB x).f t).tag 2) (ifB (Nat.ble ((evB x).f t).s.length 1000000) (k (.slc h.next 0 ((evB x).f t).s.length capU) (h.new (.arr (((evB x).f t).s.map fun b => .int 1 b.toNat) e))) none) none⟩
        | _ => failB
      | _ => failB
    | some (.slice _), some (.slice e) => match P.underlying e with
      | some (.int .u8) => match Nat.beq src dst with
        | true => ⟨fun t h k => ifB (Nat.beq ((evB x).f t).tag 4) (ifB (Nat.beq ((evB x).f t).a 1) (optK none (h.get ((evB x).f t).b) fun o => ifB (Nat.beq o.kind 0) (k ((evB x).f t) h) none) none) none⟩
        | false => failB
      | _ => failB
    | _, _ => ⟨pureC P o⟩
  | .makeFunc (.func f) first captured => ⟨fun t h k => k (.fn f first.size ((evsB (first.toList ++ captured.toList)).f t)) h⟩
  | .makeMap _ none => ⟨fun _ h k => k (.map h.next) (h.new (.map [] 0))⟩
  | .makeMap ty (some x) => match P.underlying ty with
    | some (.map _ _) => ⟨fun t h k => ifB (Nat.beq ((evB x).f t).tag 0) (k (.map h.next) (h.new (.map [] 0))) none⟩
    | _ => failB
  | .makeSlice ty l c => match P.underlying ty with
    | some (.slice e) => match zeroA P e, okRow P e with
      | some z, true => ⟨fun t h k => ifB (Nat.beq ((evB l).f t).tag 0) (ifB (Nat.beq ((evB c).f t).tag 0) (natK none ((evB l).f t).i fun n => natK none ((evB c).f t).i fun m => ifB (Nat.ble n m) (ifB (Nat.ble m 1000000) (k (.slc h.next 0 n m) (h.new (.arr (repA z m) e))) none) none) none) none⟩
      | _, _ => failB
    | _ => failB
  | .slice ty x lo hi mx => match P.underlying ty with
    | some (.slice e) => match szA P e with
      | some s => match mx.isNone || hi.isSome with
        | true => ⟨sliceC (evB x).f e s (boundB lo).f (boundB hi).f (boundB mx).f mx.isSome⟩
        | false => failB
      | none => failB
    | some .string => match mx with
      | none => ⟨sstrC (evB x).f (boundB lo).f (boundB hi).f⟩
      | some _ => failB
    | _ => failB
  | .fieldAddr s x f => match P.underlying s with
    | some (.struct fs) => match fs[f]? with
      | some fd => match szA P fd.type with
        | some (_ + 1) => ⟨fieldAddrC (evB x).f fd.offset⟩
        | _ => failB
      | none => failB
    | _ => failB
  | .field s x f => match P.underlying s with
    | some (.struct fs) => match fs[f]? with
      | some fd => ⟨fieldC (evB x).f (partB P fd.type).f fd.offset⟩
      | none => failB
    | _ => failB
  | .indexAddr ty x ix => match P.underlying ty with
    | some (.slice e) => match szA P e with
      | some s => ⟨indexAddrC (evB x).f (evB ix).f s⟩
      | none => failB
    | _ => failB
  | .index ty x ix => match P.underlying ty with
    | some .string => ⟨sindexC (evB x).f (evB ix).f⟩
    | _ => ⟨pureC P o⟩
  | .lookup ty x k ok => match P.underlying ty with
    | some (.map kt e) => match zeroVA P e, keyTag (P.underlying kt) with
      | some z, some T => ⟨lookupC T (evB x).f (evB k).f z ok⟩
      | _, _ => failB
    | _ => failB
  | .mapUpdate ty m k x | .insert ty m k x => match P.underlying ty with
    | some (.map kt _) => match keyTag (P.underlying kt) with
      | some T => ⟨updateC T (evB m).f (evB k).f (evB x).f⟩
      | none => failB
    | _ => failB
  | .range ty x => match P.underlying ty with
    | some (.map _ _) => ⟨rangeC (evB x).f⟩
    | _ => failB
  | .next it false => ⟨nextC (evB it).f⟩
  | .entry it => ⟨entryC (evB it).f⟩
  | .extract x i => ⟨extractC (evB x).f i⟩
  | .call { callee := .builtin .len, args, argTypes } => match args.toList, (argTypes[0]?).bind P.underlying with
    | [x], some (.slice _) => ⟨lenC (evB x).f⟩
    | [x], some .string => ⟨slenC (evB x).f⟩
    | [x], some (.map _ _) => ⟨mlenC (evB x).f⟩
    | _, _ => failB
  | .call { callee := .builtin .append, args, argTypes } => match args.toList, argTypes.toList with
    | [x, y], [tx, ty] => match P.underlying tx, P.underlying ty with
     | some (.slice e), some (.slice e') => match Nat.beq e e', szA P e with
      | true, some s => match okRow P e with
        | true => ⟨appendC (evB x).f (evB y).f e s⟩
        | false => failB
      | _, _ => failB
     | _, _ => failB
    | _, _ => failB
  | .call { callee := .builtin _, .. } | .unOp .. => ⟨pureC P o⟩
  | _ => failB

/-- How calls are served: of a function, by its number; of a loop's yield. -/
structure CallT where
  st : Nat → List AV → AH → KV → R
  yd : Nat → List AV → AH → KV → R

/-- Numbers in a tree: so that a number that was reckoned becomes one that is written. -/
inductive LT where
  | leaf (n : Nat)
  | node (l r : LT)
def litT : Nat → Nat → Nat → LT
  | 0, a, _ => .leaf a
  | d + 1, a, s => .node (litT d a (2 * s)) (litT d (a + s) (2 * s))
noncomputable def litK (t : LT) : Nat → (Nat → R) → R :=
  LT.rec (motive := fun _ => Nat → (Nat → R) → R) (fun m _ k => k m) (fun _ _ ihl ihr n k => ifB (Nat.beq (n % 2) 0) (ihl (n / 2) k) (ihr (n / 2) k)) t
/-- What code does: it ends (0: behind the code, with 0; 1: at an exit; 2: at a return). -/
abbrev KC := Nat → Nat → Fr → AH → R
abbrev CodeT := CallT → Fr → AH → KC → R

def putF (n : Nat) (d : Option Tmp) : Bx (Fr → AV → Fr) :=
  match d with
  | none => ⟨fun t _ => t⟩
  | some d => match Nat.blt d n with
    | true => setF d
    | false => ⟨fun t _ => t⟩

noncomputable def callS (f : Nat) (xs : Fr → List AV) (put : Fr → AV → Fr) (rest : CodeT) : CodeT := fun call t h k => call.st f (xs t) h fun v h => rest call (put t v) h k
/-- A call of a value. -/
noncomputable def valK (call : CallT) (f : AV) (xs : List AV) (h : AH) (k : KV) : R :=
  ifB (Nat.beq f.tag 6) (ifB (Nat.beq f.a 1) (ifB (Nat.ble f.b 511) (litK (litT 9 0 1) f.b fun m => ifB (Nat.beq f.c 0) (call.st m (xs ++ f.l) h k) (call.st m (f.l.take f.c ++ xs ++ f.l.drop f.c) h k)) none) (ifB (Nat.beq f.a 2) (call.yd f.b xs h k) none)) none
noncomputable def callD (f : Fr → AV) (xs : Fr → List AV) (put : Fr → AV → Fr) (rest : CodeT) : CodeT := fun call t h k => valK call (f t) (xs t) h fun v h => rest call (put t v) h k
noncomputable def thenC (op : OpT) (put : Fr → AV → Fr) (rest : CodeT) : CodeT := fun call t h k => op t h fun v h => rest call (put t v) h k
noncomputable def guardC (g : Fr → AV) (want : Nat) (yes no : CodeT) : CodeT := fun call t h k => ifB (Nat.beq (g t).tag 1) (ifB (Nat.beq (g t).a want) (yes call t h k) (no call t h k)) (ifB (Nat.beq (g t).tag 8) (no call t h k) none)
noncomputable def skipC (put : Fr → AV → Fr) (rest : CodeT) : CodeT := fun call t h k => rest call (put t .undef) h k

/-- One operation, unguarded. -/
noncomputable def oneB (P : Program) (n : Nat) (o : Oper) (rest : Bx CodeT) : Bx CodeT :=
  match o.op with
  | .call { callee := .value (.func f), args, .. } => ⟨callS f (evsB args.toList).f (putF n o.dst).f rest.f⟩
  | .call { callee := .value f, args, .. } => ⟨callD (evB f).f (evsB args.toList).f (putF n o.dst).f rest.f⟩
  | _ => ⟨thenC (opB P o).f (putF n o.dst).f rest.f⟩
noncomputable def stepB (P : Program) (n : Nat) (ops : Array Oper) (o : Oper) (rest : Bx CodeT) : Bx CodeT :=
  match o.guard with
  | none => oneB P n o rest
  | some (j, want) => match (ops[j]?).bind (·.dst) with
    | some d => ⟨guardC (evB (.tmp d)).f want.toNat (oneB P n o rest).f (skipC (putF n o.dst).f rest.f)⟩
    | none => ⟨skipC (putF n o.dst).f rest.f⟩
noncomputable def opsB (P : Program) (n : Nat) (ops : Array Oper) : List Oper → Bx CodeT
  | [] => ⟨fun _ t h k => k 0 0 t h⟩
  | o :: l => stepB P n ops o (opsB P n ops l)

/-- What an operation may do: 0 yield a value, 1 make an object, 2 more. -/
def clsO : Op → Nat
  | .move _ | .pick .. | .load .. | .nilCheck _ | .binOp .. | .unOp .. | .makeFunc .. | .slice .. | .fieldAddr .. | .field .. | .indexAddr .. | .index .. | .lookup .. | .entry _ | .extract .. | .build .. => 0
  | .alloc _ | .box .. | .buildSlice .. | .makeMap .. | .makeSlice .. => 1
  | .call { callee := .builtin .append, .. } => 2
  | .call { callee := .builtin _, .. } => 0
  | _ => 2
/-- An operation of a region that draws its order: its number, what must lie ahead of it. -/
structure PS where
  i : Nat
  o : Oper
  m : Nat
def maskE (acc : List Nat) : List Edge → Nat
  | [] => 0
  | e :: es => match Region.binds .any e with
    | true => 2 ^ e.on ||| (acc.getD e.on 0 ||| maskE acc es)
    | false => maskE acc es
def itemsGo : Nat → List Nat → List Oper → List PS
  | _, _, [] => []
  | i, acc, o :: l => ⟨i, o, maskE acc o.after.toList⟩ :: itemsGo (i + 1) (acc ++ [maskE acc o.after.toList]) l
def tmpsOf (l : List Operand) : List Nat := l.filterMap fun x => match x with | .tmp t => some t | _ => none
/-- The temporaries that an operation looks at. -/
def seenBy (ops : Array Oper) (o : Oper) : List Nat :=
  (match o.guard with | some (j, _) => ((ops[j]?).bind (·.dst)).toList | none => []) ++ tmpsOf o.op.operands.toList
def subM (m c : Nat) : Bool := Nat.beq (m &&& c) m
def pickP (c : Nat) : List PS → Option PS
  | [] => none
  | p :: l => match Nat.blt (clsO p.o.op) 2 && subM p.m c with
    | true => some p
    | false => pickP c l
def planGo : Nat → Nat → List PS → List PS
  | 0, _, _ => []
  | n + 1, c, l => match pickP c l with
    | some p => p :: planGo n (c ||| 2 ^ p.i) (l.filter fun q => !Nat.beq q.i p.i)
    | none => match l with
      | [] => []
      | p :: l => p :: planGo n (c ||| 2 ^ p.i) l
/-- Whether two values are one (cells within cells, three deep). -/
noncomputable def avEqB (x y : AV) (l : Bool) : Bool := ifB (Nat.beq x.tag y.tag) (ifB (Nat.beq x.a y.a) (ifB (Nat.beq x.b y.b) (ifB (Nat.beq x.c y.c) (ifB (Nat.beq x.d y.d) (ifB (Nat.beq x.e y.e) (ifB (intEq x.i y.i) (ifB (strEq x.s y.s) l false) false) false) false) false) false) false) false
noncomputable def avEq1 (x y : AV) : Bool := avEqB x y (List.casesOn x.l (List.casesOn y.l true fun _ _ => false) fun _ _ => false)
noncomputable def avsEq (eq : AV → AV → Bool) (l : List AV) : List AV → Bool :=
  List.rec (motive := fun _ => List AV → Bool) (fun m => List.casesOn m true fun _ _ => false) (fun a _ ih m => List.casesOn m false fun b bs => ifB (eq a b) (ih bs) false) l
noncomputable def avEq2 (x y : AV) : Bool := avEqB x y (avsEq avEq1 x.l y.l)
noncomputable def avEq3 (x y : AV) : Bool := avEqB x y (avsEq avEq2 x.l y.l)
noncomputable def avEq (x y : AV) : Bool := avEqB x y (avsEq avEq3 x.l y.l)

/-- An operation with its guard. -/
noncomputable def guardO (P : Program) (ops : Array Oper) (o : Oper) : Bx OpT :=
  match o.guard with
  | none => opB P o
  | some (j, want) => match (ops[j]?).bind (·.dst) with
    | some d => ⟨fun t h k => ifB (Nat.beq ((evB (.tmp d)).f t).tag 1) (ifB (Nat.beq ((evB (.tmp d)).f t).a want.toNat) ((opB P o).f t h k) (k .undef h)) (ifB (Nat.beq ((evB (.tmp d)).f t).tag 8) (k .undef h) none)⟩
    | none => ⟨fun _ h k => k .undef h⟩
noncomputable def softC (f : OpT) (put : Fr → AV → Fr) (rest : CodeT) : CodeT := fun call t h k => optK none (f t h fun v h => some (v, h)) fun p => Prod.rec (motive := fun _ => R) (fun v h => rest call (put t v) h k) p
noncomputable def plainC (f : OpT) (put : Fr → AV → Fr) (rest : CodeT) : CodeT := fun call t h k => optK none (f t h fun v h => some (v, h)) fun p => Prod.rec (motive := fun _ => R) (fun v _ => rest call (put t v) h k) p
/-- What was reckoned is reckoned again. -/
noncomputable def againC (f : OpT) (eq : Fr → AV → Bool) (rest : CodeT) : CodeT := fun call t h k => optK none (f t h fun v h => some (v, h)) fun p => ifB (eq t p.1) (rest call t h k) none
noncomputable def eqT (d : Option Tmp) : Bx (Fr → AV → Bool) :=
  match d with
  | none => ⟨fun _ _ => true⟩
  | some d => ⟨fun t v => avEq v ((evB (.tmp d)).f t)⟩
noncomputable def againB (P : Program) (ops : Array Oper) (rest : Bx CodeT) : List PS → Bx CodeT
  | [] => rest
  | p :: l => ⟨againC (guardO P ops p.o).f (eqT p.o.dst).f (againB P ops rest l).f⟩
noncomputable def planB (P : Program) (n : Nat) (ops : Array Oper) : List PS → List PS → Bx CodeT
  | _, [] => ⟨fun _ t h k => k 0 0 t h⟩
  | done, p :: l => match clsO p.o.op with
    | 0 => ⟨plainC (guardO P ops p.o).f (putF n p.o.dst).f (planB P n ops (p :: done) l).f⟩
    | 1 => ⟨softC (guardO P ops p.o).f (putF n p.o.dst).f (planB P n ops done l).f⟩
    | _ => stepB P n ops p.o (againB P ops (planB P n ops done l) (done.filter fun q => !Nat.testBit p.m q.i))
def namesT (ops : Array Oper) (d : Option Tmp) (q : PS) : Bool :=
  match d with
  | none => false
  | some d => q.o.dst == some d || (seenBy ops q.o).elem d
def okP (ops : Array Oper) (n : Nat) (all : List PS) : Nat → List PS → Bool
  | c, [] => Nat.beq c (2 ^ ops.size - 1)
  | c, p :: l => subM p.m c && (!Nat.testBit c p.i && ((match p.o.dst with | some d => Nat.blt d n | none => true) && ((match Nat.blt (clsO p.o.op) 2 with
    | true => !(match p.o.dst with | some d => (seenBy ops p.o).elem d | none => false) && all.all fun q => Nat.beq q.i p.i || (!namesT ops p.o.dst q || Nat.testBit q.m p.i)
    | false => (l.all fun q => Nat.testBit q.m p.i) && all.all fun q => Nat.beq q.i p.i || (!namesT ops p.o.dst q || (Nat.testBit q.m p.i || Nat.testBit p.m q.i))) && okP ops n all (c ||| 2 ^ p.i) l)))
/-- The edges go back. -/
def okE : Nat → List Oper → Bool
  | _, [] => true
  | i, o :: l => (o.after.toList.all fun e => !Region.binds .any e || Nat.blt e.on i) && okE (i + 1) l
noncomputable def drawB1 (P : Program) (n : Nat) (ops : Array Oper) (no : Bx CodeT) : Bx CodeT :=
  match planGo ops.size 0 (itemsGo 0 [] ops.toList) with
  | pl => match okP ops n (itemsGo 0 [] ops.toList) 0 pl with
    | true => planB P n ops [] pl
    | false => no

/-- A map literal whose entries are laid in any order: the map's temporary; how an entry is laid. -/
structure LitP where
  tm : Tmp
  ty : TypeId
  kt : Nat
def litOf (P : Program) (o : Oper) : Option LitP :=
  match o.op, o.dst, o.guard with
  | .makeMap ty none, some d, none => match P.underlying ty with
    | some (.map kt _) => (keyTag (P.underlying kt)).map fun T => ⟨d, ty, T⟩
    | _ => none
  | _, _, _ => none
def lateOf (q : LitP) (o : Oper) : Option (Value × Operand) :=
  match o.op, o.dst, o.guard with
  | .insert ty (.tmp d) (.const k) v, none, none => match Nat.beq ty q.ty && Nat.beq d q.tm with
    | true => some (k, v)
    | false => none
  | _, _, _ => none
def dummyO (o : Oper) : Oper := { o with op := .move (.const undef), dst := none, guard := none }
def isLate (q : LitP) (o : Oper) : Bool := (lateOf q o).isSome
def litItem (q : LitP) (p : PS) : PS := match isLate q p.o with | true => ⟨p.i, dummyO p.o, p.m⟩ | false => p
/-- The keys are of one kind, and apart. -/
def keysOk (T : Nat) : List Value → Bool
  | [] => true
  | k :: l => Nat.beq (ofV k).tag T && ((l.all fun k' => Nat.beq (ofV k').a (ofV k).a && !keySame T (ofV k) (ofV k')) && keysOk T l)
where keySame (T : Nat) (x y : AV) : Bool := match T with | 0 => x.i == y.i | _ => x.s == y.s
/-- What an entry looks at stays. -/
def okL (q : LitP) (ops : Array Oper) (its pl : List PS) : Bool :=
  (pl.all fun p => !(p.o.dst == some q.tm)) && (its.all fun l => !isLate q l.o || (Nat.testBit l.m 0 && pl.all fun p => match p.o.dst with
    | some d => !(seenBy ops l.o).elem d || Nat.testBit l.m p.i
    | none => true))
def litKV (q : LitP) (l : List PS) : List (Value × Operand) := l.filterMap fun p => lateOf q p.o
noncomputable def litEs : List (Value × Operand) → Bx (Fr → List ME)
  | [] => ⟨fun _ => []⟩
  | (k, v) :: l => ⟨fun t => ⟨ofV k, (evB v).f t, 0⟩ :: (litEs l).f t⟩
noncomputable def litC (put : Fr → AV → Fr) (tm : Fr → AV) (body : CodeT) (es : Fr → List ME) : CodeT := fun call t h k =>
  body call (put t (.map h.next)) ⟨h.t, h.next + 1⟩ fun _ _ t h => k 0 0 t (h.put (tm t).b (some (.lit (es t))))
noncomputable def litB (P : Program) (n : Nat) (ops : Array Oper) : Bx CodeT :=
  match itemsGo 0 [] ops.toList with
  | [] => ⟨fun _ _ _ _ => none⟩
  | z :: its => match litOf P z.o with
    | none => ⟨fun _ _ _ _ => none⟩
    | some q => match planGo ops.size 1 (its.map (litItem q)) with
      | pl => match okP ops n (z :: its.map (litItem q)) 0 (z :: pl) && okL q ops its (its.map (litItem q)) && keysOk q.kt ((litKV q its).map (·.1)) with
        | true => ⟨litC (putF n (some q.tm)).f (evB (.tmp q.tm)).f (planB P n ops [] pl).f (litEs (litKV q its)).f⟩
        | false => ⟨fun _ _ _ _ => none⟩
noncomputable def drawB (P : Program) (n : Nat) (ops : Array Oper) : Bx CodeT :=
  match okE 0 ops.toList with
  | true => drawB1 P n ops (litB P n ops)
  | false => ⟨fun _ _ _ _ => none⟩

noncomputable def seqC (a b : CodeT) : CodeT := fun call t h k => a call t h fun x o t h => ifB (Nat.beq x 0) (b call t h k) (k x o t h)
noncomputable def condC (c : Fr → AV) (a b : CodeT) : CodeT := fun call t h k => ifB (Nat.beq (c t).tag 1) (ifB (Nat.beq (c t).a 1) (a call t h k) (b call t h k)) none
noncomputable def blockC (id : Nat) (b : CodeT) : CodeT := fun call t h k => b call t h fun x o t h => ifB (Nat.beq x 1) (ifB (Nat.beq o id) (k 0 0 t h) (k x o t h)) (k x o t h)
noncomputable def loopC (b : CodeT) : CodeT := fun call t h k => loopK none (fun t h k => b call t h k) 100000 t h k

/-- A range over a function: the record of the loop is laid; the function is called; what a round left is done. -/
noncomputable def rangeFC (n : Nat) (f : Fr → AV) (ps : List Tmp) (asg body : Code) : CodeT := fun call t h k => ifB (Nat.beq (f t).a 1)
  (valK call (f t) [.yield h.next] (h.new (.loop 0 0 0 (n, t, ps, asg, body))) fun _ h2 => optK none (h2.get h.next) fun o => ifB (Nat.beq o.kind 4) (ifB (Nat.beq o.m 1) none
    (optK none o.lp fun lp => nthN o.ns fun x => k o.n x t (h2.put h.next (some (.loop o.n x 3 lp))))) none) none

/-- A range over a map whose entries may come in any order: the iterator, what 'next', its flag and 'entry' are put into; what is done with an entry; where. -/
structure AnyP where
  it : Nat
  n1 : Nat
  c : Nat
  e1 : Nat
  o21 : Array Oper
  tail : List Oper
  id2 : Nat
  rest : Code
def anyOps (id : Nat) (o20 o21 : Array Oper) (c id' id2 : Nat) (rest : Code) : Option AnyP :=
  match o20.toList, o21.toList with
  | [a, b], e :: tail => match a.op, b.op, e.op, a.dst, b.dst, e.dst, a.guard, b.guard, e.guard with
    | .next (.tmp it) false, .extract (.tmp m1) 0, .entry (.tmp it'), some n1, some c', some e1, none, none, none =>
      match Nat.beq it it' && Nat.beq m1 n1 && Nat.beq c c' && Nat.beq id id' && !Nat.beq it n1 && !Nat.beq it c && !Nat.beq c n1 with
      | true => some ⟨it, n1, c, e1, o21, tail, id2, rest⟩
      | false => none
    | _, _, _, _, _, _, _, _, _ => none
  | _, _ => none
def anyShape (id : Nat) : Code → Option AnyP
  | .loop (.seq (.region _ o20 false) (.seq (.cond (.tmp c) .skip (.exit id')) (.block id2 (.seq (.region _ o21 false) rest)))) => anyOps id o20 o21 c id' id2 rest
  | _ => none
def dstsL (l : List Oper) : List Nat := l.filterMap (·.dst)
/-- What code writes and looks at. -/
def dstsC : Code → List Nat
  | .region _ ops _ => dstsL ops.toList
  | .seq a b | .cond _ a b => dstsC a ++ dstsC b
  | .block _ b | .loop b => dstsC b
  | _ => []
def seenC : Code → List Nat
  | .region _ ops _ => ops.toList.flatMap fun o => tmpsOf o.op.operands.toList
  | .seq a b => seenC a ++ seenC b
  | .cond c a b => tmpsOf [c] ++ (seenC a ++ seenC b)
  | .block _ b | .loop b => seenC b
  | _ => []
/-- The maps that code may look at, alone in memory. -/
noncomputable def mapsK (h : AH) (t : Fr) (g : AH) (l : List Nat) : AH :=
  List.rec (motive := fun _ => AH) g (fun i _ ih => ifB (Nat.beq ((evB (.tmp i)).f t).tag 5) (ifB (Nat.beq ((evB (.tmp i)).f t).a 1) (optK ih (h.get ((evB (.tmp i)).f t).b) fun o => ifB (Nat.beq o.kind 1) (AH.put ih ((evB (.tmp i)).f t).b (some o)) ih) ih) ih) l
noncomputable def junkK (t : Fr) (l : List Nat) : Fr := List.rec (motive := fun _ => Fr) t (fun i _ ih => ifB (Nat.blt i 512) ((setF i).f ih .junk) ih) l

noncomputable def meEq (x y : ME) : Bool := ifB (avEq1 x.key y.key) (ifB (avEq1 x.val y.val) (Nat.beq x.born y.born) false) false
noncomputable def mesEq (l : List ME) : List ME → Bool :=
  List.rec (motive := fun _ => List ME → Bool) (fun m => List.casesOn m true fun _ _ => false) (fun a _ ih m => List.casesOn m false fun b bs => ifB (meEq a b) (ih bs) false) l
noncomputable def mapEq (x y : Option OB) : Bool :=
  Option.casesOn x false fun a => Option.casesOn y false fun b => ifB (Nat.beq a.kind 1) (ifB (Nat.beq b.kind 1) (ifB (Nat.beq a.n b.n) (mesEq a.es b.es) false) false) false
/-- The maps that were looked at stay. -/
noncomputable def sameMaps (h g : AH) (t : Fr) (l : List Nat) : Bool :=
  List.rec (motive := fun _ => Bool) true (fun i _ ih => ifB (Nat.beq ((evB (.tmp i)).f t).tag 5) (ifB (Nat.beq ((evB (.tmp i)).f t).a 1) (ifB (mapEq (h.get ((evB (.tmp i)).f t).b) (g.get ((evB (.tmp i)).f t).b)) ih false) ih) ih) l
/-- Temporaries below n that are not of l stay. -/
noncomputable def sameT (t u : Fr) (l : List Nat) (n : Nat) : Bool :=
  Nat.rec (motive := fun _ => Bool) true (fun i ih => ifB (l.elem i) ih (ifB (avEq ((evB (.tmp i)).f t) ((evB (.tmp i)).f u)) ih false)) n
/-- What an entry's walk leaves of its own object. -/
noncomputable def anyOneK (q : AnyP) (J sh : List Nat) (n : Nat) (body : CodeT) (call : CallT) (t : Fr) (h : AH) (e : ME) (k : OB → R) : R :=
  ifB (Nat.beq e.val.tag 4) (ifB (Nat.beq e.val.a 1) (optK none (h.get e.val.b) fun o => ifB (Nat.beq o.kind 0)
    (optK none (body call ((putF n (some q.e1)).f ((putF n (some q.c)).f ((putF n (some q.n1)).f (junkK t J) (.tup [.bool true, e.key, e.val])) (.bool true)) (.tup [e.key, e.val])) (AH.put (mapsK h t ⟨.nil, h.next⟩ sh) e.val.b (some o)) fun y x t' h' =>
      ifB (ifB (Nat.beq y 0) true (ifB (Nat.beq y 1) (Nat.beq x q.id2) false)) (ifB (Nat.beq h'.next h.next) (ifB (sameT (junkK t J) t' J n) (ifB (sameMaps h' h t sh) (some (.undef, h')) none) none) none) none)
      fun p => optK none (p.2.get e.val.b) k) none) none) none
noncomputable def anyAllK (one : ME → (OB → R) → R) (l : List ME) : AH → (AH → R) → R :=
  List.rec (motive := fun _ => AH → (AH → R) → R) (fun h k => k h) (fun e _ ih h k => one e fun o => ih (h.put e.val.b (some o)) k) l
noncomputable def ownsOk (l : List ME) : Bool :=
  List.rec (motive := fun _ => Bool) true (fun e l ih => ifB (l.all fun f => !Nat.beq f.val.b e.val.b && !Nat.beq f.born e.born) ih false) l
noncomputable def anyTest (h : AH) (p : AV) : Bool := ifB (Nat.beq p.tag 3) (ifB (Nat.beq p.a 1) (Option.casesOn (h.get p.b) false fun r => ifB (Nat.beq r.kind 3) (List.casesOn r.ns (Option.casesOn (h.get r.n) false fun m => ifB (Nat.beq m.kind 1) (Nat.ble 2 m.es.length) false) fun _ _ => false) false) false) false
noncomputable def anyC (q : AnyP) (J sh : List Nat) (n : Nat) (body ordinary : CodeT) : CodeT := fun call t h k => ifB (anyTest h ((evB (.tmp q.it)).f t))
  (iterK h ((evB (.tmp q.it)).f t) fun r m => ifB (ownsOk m.es && !J.elem q.it && (List.casesOn r.ns true fun _ _ => false) && (Option.casesOn ((mapsK h t ⟨.nil, h.next⟩ sh).get r.n) true fun _ => false)) (anyAllK (anyOneK q J sh n body call t h) m.es (h.put ((evB (.tmp q.it)).f t).b none) fun h' => k 0 0 (junkK t J) h') none)
  (ordinary call t h k)

noncomputable def codeG (P : Program) (n : Nat) (rd : Bool) (blk : Nat → Code → Bx CodeT → Bx CodeT) : Code → Bx CodeT
  | .rangeFunc g ps asg body => match rd with
    | false => ⟨rangeFC n (evB g).f ps.toList asg body⟩
    | true => ⟨fun _ _ _ _ => none⟩
  | .skip => ⟨fun _ t h k => k 0 0 t h⟩
  | .region _ ops false => opsB P n ops ops.toList
  | .region _ ops true => drawB P n ops
  | .seq a b => ⟨seqC (codeG P n rd blk a).f (codeG P n rd blk b).f⟩
  | .cond c a b => ⟨condC (evB c).f (codeG P n rd blk a).f (codeG P n rd blk b).f⟩
  | .block id b => blk id b (codeG P n rd blk b)
  | .loop b => ⟨loopC (codeG P n rd blk b).f⟩
  | .exit id => ⟨fun _ t h k => k 1 id t h⟩
  | .ret => ⟨fun _ t h k => k 2 0 t h⟩
  | _ => ⟨fun _ _ _ _ => none⟩

noncomputable def codeB0 (P : Program) (n : Nat) (rd : Bool) (c : Code) : Bx CodeT := codeG P n rd (fun id _ b => ⟨blockC id b.f⟩) c
noncomputable def blkB (P : Program) (n : Nat) (rd : Bool) (id : Nat) (b : Code) (bb : Bx CodeT) : Bx CodeT :=
  match anyShape id b with
  | some q => match Nat.blt q.n1 n && Nat.blt q.c n with
    | true => ⟨anyC q (q.n1 :: q.c :: q.e1 :: (dstsL q.tail ++ dstsC q.rest)) ((q.tail.flatMap fun o => tmpsOf o.op.operands.toList) ++ seenC q.rest) n (seqC (opsB P n q.o21 q.tail).f (codeB0 P n rd q.rest).f) (blockC id bb.f)⟩
    | false => ⟨blockC id bb.f⟩
  | none => ⟨blockC id bb.f⟩
noncomputable def codeB (P : Program) (n : Nat) (rd : Bool) (c : Code) : Bx CodeT := codeG P n rd (blkB P n rd) c

noncomputable def resB (P : Program) : List ResultVar → Bx (Fr → AH → (List AV → R) → R)
  | [] => ⟨fun _ _ k => k []⟩
  | .tmp i :: rest => ⟨fun t h k => (resB P rest).f t h fun l => k ((evB (.tmp i)).f t :: l)⟩
  | .cell i ty :: rest => ⟨fun t h k => cellsK h ((evB (.tmp i)).f t) fun o => (partB P ty).f o.cs ((evB (.tmp i)).f t).c fun v => (resB P rest).f t h fun l => k (v :: l)⟩
def tupA : List AV → AV
  | [v] => v
  | vs => .tup vs

/-- The arguments in the first slots. -/
noncomputable def argsB : Nat → Nat → Bx (Fr → List AV → (Fr → R) → R)
  | _, 0 => ⟨fun t l k => List.casesOn l (k t) fun _ _ => none⟩
  | i, n + 1 => ⟨fun t l k => List.casesOn l none fun v l => (argsB (i + 1) n).f ((setF i).f t v) l k⟩

structure FnB where
  run : CallT → List AV → AH → KV → R
noncomputable def bodyC (args : Fr → List AV → (Fr → R) → R) (body : CodeT) (res : Fr → AH → (List AV → R) → R) : CallT → List AV → AH → KV → R := fun call xs h k =>
  args frame0 xs fun t => body call t h fun x _ t h => ifB (Nat.beq x 1) none (res t h fun l => k (tupA l) h)
noncomputable def fnB (P : Program) (f : Nat) : FnB :=
  match P.funcs[f]? with
  | some fn => match fn.body with
    | some c => match fn.name == "runtime.NumGoroutine" || Nat.ble 512 fn.ntmps || !Nat.ble (fn.params.size + fn.nfree) fn.ntmps with
      | true => ⟨fun _ _ _ _ => none⟩
      | false => ⟨bodyC (argsB 0 (fn.params.size + fn.nfree)).f (codeB P fn.ntmps false c).f (resB P fn.results.toList).f⟩
    | none => ⟨fun _ _ _ _ => none⟩
  | none => ⟨fun _ _ _ _ => none⟩

/-- The parameters of a round. -/
noncomputable def setTs (n : Nat) : List Tmp → Bx (Fr → List AV → (Fr → R) → R)
  | [] => ⟨fun t l k => List.casesOn l (k t) fun _ _ => none⟩
  | p :: ps => ⟨fun t l k => List.casesOn l none fun v l => (setTs n ps).f ((putF n (some p)).f t v) l k⟩
noncomputable def roundK (P : Program) (call : CallT) (l : Nat) (xs : List AV) (h : AH) (k : KV) : R :=
  optK none (h.get l) fun o => ifB (Nat.beq o.kind 4) (optK none o.lp fun lp => (setTs lp.1 lp.2.2.1).f lp.2.1 xs fun t =>
    (codeB P lp.1 true lp.2.2.2.1).f call t h fun y _ t h => ifB (Nat.beq y 0) (optK none (h.get l) fun o => ifB (Nat.beq o.kind 4) (ifB (Nat.beq o.m 0) (optK none o.lp fun lp2 => nthN o.ns fun e =>
      (codeB P lp.1 true lp.2.2.2.2).f call t (h.put l (some (.loop o.n e 1 lp2))) fun y e _ h => optK none (h.get l) fun o => ifB (Nat.beq o.kind 4) (optK none o.lp fun lp3 =>
        k (.bool (Nat.beq y 0)) (h.put l (some (.loop y e (ifB (Nat.beq y 0) 0 2) lp3)))) none) none) none) none) none
noncomputable def callK (P : Program) (n : Nat) : CallT :=
  Nat.rec (motive := fun _ => CallT) ⟨fun _ _ _ _ => none, fun _ _ _ _ => none⟩ (fun _ call => ⟨fun f xs h k => (fnB P f).run call xs h k, fun l xs h k => roundK P call l xs h k⟩) n

end Go.Proofs.YtlclpcobblojnaaGreatDoor
/- The machine for closed runs: laws of its tables, frames and lists. -/
namespace Go.Proofs.YtlclpcobblojnaaGreatDoor

@[simp] theorem ifB_t {α : Type} (x y : α) : ifB true x y = x := rfl
@[simp] theorem ifB_f {α : Type} (x y : α) : ifB false x y = y := rfl
theorem ifB_some {β : Type} {b : Bool} {x : Option β} {r : β} (h : ifB b x none = some r) : b = true ∧ x = some r := by
  cases b
  · cases h
  · exact ⟨rfl, h⟩
theorem ifB_eq {α : Type} (b : Bool) (x y : α) : ifB b x y = if b then x else y := by cases b <;> rfl
theorem beq_of {m n : Nat} (h : Nat.beq m n = true) : m = n := Nat.eq_of_beq_eq_true h
theorem optK_some {α β : Type} {x : Option α} {k : α → Option β} {r : β} (h : optK none x k = some r) : ∃ a, x = some a ∧ k a = some r := by
  cases x with
  | none => cases h
  | some a => exact ⟨a, rfl, h⟩
theorem natK_some {β : Type} {i : Int} {k : Nat → Option β} {r : β} (h : natK none i k = some r) : ∃ n : Nat, i = (n : Int) ∧ k n = some r := by
  cases i with
  | ofNat n => exact ⟨n, rfl, h⟩
  | negSucc n => cases h

theorem Trie.get_nil (n : Nat) : Trie.nil.get n = none := rfl
theorem Trie.get_node (v : Option OB) (l r : Trie) (n : Nat) : (Trie.node v l r).get n = if n = 0 then v else if n % 2 = 1 then l.get (n / 2) else r.get (n / 2 - 1) := by
  show ifB (Nat.beq n 0) v (ifB (Nat.beq (n % 2) 1) (l.get (n / 2)) (r.get (n / 2 - 1))) = _
  rw [ifB_eq, ifB_eq]
  by_cases h : n = 0
  · simp [h]
  · have h1 : Nat.beq n 0 = false := by
      cases hb : Nat.beq n 0
      · rfl
      · exact absurd (beq_of hb) h
    rw [h1, if_neg h]
    by_cases h2 : n % 2 = 1
    · simp [h2]
    · have h3 : Nat.beq (n % 2) 1 = false := by
        cases hb : Nat.beq (n % 2) 1
        · rfl
        · exact absurd (beq_of hb) h2
      rw [h3, if_neg h2]
      rfl
theorem Trie.get_eq (t : Trie) (n : Nat) : t.get n = if n = 0 then t.v else if n % 2 = 1 then t.l.get (n / 2) else t.r.get (n / 2 - 1) := by
  cases t with
  | nil => rw [Trie.get_nil]; simp [Trie.v, Trie.l, Trie.r, Trie.get_nil]
  | node v l r => rw [Trie.get_node]; rfl
theorem Trie.put_succ (o : Option OB) (d : Nat) (t : Trie) (n : Nat) : Trie.put o (d + 1) t n =
    if n = 0 then .node o t.l t.r else if n % 2 = 1 then .node t.v (Trie.put o d t.l (n / 2)) t.r else .node t.v t.l (Trie.put o d t.r (n / 2 - 1)) := by
  show ifB (Nat.beq n 0) _ (ifB (Nat.beq (n % 2) 1) _ _) = _
  rw [ifB_eq, ifB_eq]
  have e : ∀ m k : Nat, (Nat.beq m k = true) = (m = k) := fun m k => propext ⟨beq_of, fun h => by subst h; exact Nat.beq_refl m⟩
  simp only [e]
  rfl
theorem Trie.get_put (o : Option OB) : ∀ (d : Nat) (t : Trie) (n m : Nat), (Trie.put o d t n).get m = if m = n ∧ n + 1 < 2 ^ d then o else t.get m
  | 0, t, n, m => by
    rw [if_neg (by simp)]
    rfl
  | d + 1, t, n, m => by
    have hp : 2 ^ (d + 1) = 2 * 2 ^ d := by rw [Nat.pow_succ]; omega
    have hpos : 0 < 2 ^ d := Nat.two_pow_pos d
    have ihl := Trie.get_put o d t.l (n / 2) (m / 2)
    have ihr := Trie.get_put o d t.r (n / 2 - 1) (m / 2 - 1)
    rw [Trie.put_succ, hp]
    generalize 2 ^ d = q at *
    have e := Trie.get_eq t m
    by_cases h0 : n = 0
    · subst h0
      rw [if_pos rfl, Trie.get_node]
      by_cases hm : m = 0
      · subst hm
        rw [if_pos rfl, if_pos ⟨rfl, by omega⟩]
      · rw [if_neg hm, if_neg (show ¬(m = 0 ∧ 0 + 1 < 2 * q) from fun h => hm h.1), e, if_neg hm]
    · rw [if_neg h0]
      by_cases h1 : n % 2 = 1
      · rw [if_pos h1, Trie.get_node]
        by_cases hm : m = 0
        · rw [if_pos hm, if_neg (by omega), e, if_pos hm]
        · rw [if_neg hm]
          by_cases hm1 : m % 2 = 1
          · rw [if_pos hm1, ihl]
            by_cases hc : m = n ∧ n + 1 < 2 * q
            · rw [if_pos hc, if_pos (by omega)]
            · rw [if_neg hc, if_neg (by omega), e, if_neg hm, if_pos hm1]
          · rw [if_neg hm1, if_neg (by omega), e, if_neg hm, if_neg hm1]
      · rw [if_neg h1, Trie.get_node]
        by_cases hm : m = 0
        · rw [if_pos hm, if_neg (by omega), e, if_pos hm]
        · rw [if_neg hm]
          by_cases hm1 : m % 2 = 1
          · rw [if_pos hm1, if_neg (by omega), e, if_neg hm, if_pos hm1]
          · rw [if_neg hm1, ihr]
            by_cases hc : m = n ∧ n + 1 < 2 * q
            · rw [if_pos hc, if_pos (by omega)]
            · rw [if_neg hc, if_neg (by omega), e, if_neg hm, if_neg hm1]

theorem AH.get_put (h : AH) (i : Nat) (o : Option OB) (j : Nat) : (h.put i o).get j = if j = i ∧ i + 1 < 16777216 then o else h.get j := Trie.get_put o 24 h.t i j
theorem AH.get_new (h : AH) (o : OB) (j : Nat) : (h.new o).get j = if j = h.next ∧ h.next + 1 < 16777216 then some o else h.get j := Trie.get_put (some o) 24 h.t h.next j
@[simp] theorem AH.next_put (h : AH) (i : Nat) (o : Option OB) : (h.put i o).next = h.next := rfl
@[simp] theorem AH.next_new (h : AH) (o : OB) : (h.new o).next = h.next + 1 := rfl

section
variable {α : Type}
def get8 (i : Nat) (t : N8 α) : α :=
  match i with
  | 0 => t.f0 | 1 => t.f1 | 2 => t.f2 | 3 => t.f3 | 4 => t.f4 | 5 => t.f5 | 6 => t.f6 | _ => t.f7
def set8 (i : Nat) (t : N8 α) (v : α) : N8 α := put8 i fun f => f t v
theorem sel8_eq {β : Type} (i : Nat) (k : (N8 α → α) → β) : sel8 i k = k (get8 i) := by
  rcases i with _ | _ | _ | _ | _ | _ | _ | _ <;> rfl
theorem put8_eq {β : Type} (i : Nat) (k : (N8 α → α → N8 α) → β) : put8 i k = k (set8 i) := by
  rcases i with _ | _ | _ | _ | _ | _ | _ | _ <;> rfl
theorem get8_set8 {i j : Nat} (hi : i < 8) (hj : j < 8) (t : N8 α) (v : α) : get8 i (set8 j t v) = if i = j then v else get8 i t := by
  rcases i with _ | _ | _ | _ | _ | _ | _ | _ | _ <;> first | omega | (rcases j with _ | _ | _ | _ | _ | _ | _ | _ | _ <;> first | omega | rfl)
theorem get8_rep {i : Nat} (a : α) : get8 i (rep8 a) = a := by
  rcases i with _ | _ | _ | _ | _ | _ | _ | _ <;> rfl
end

/-- A slot of a frame. -/
def Fr.get (t : Fr) (i : Nat) : AV := if i < 64 then get8 (i % 8) (get8 (i / 8) t.lo) else get8 ((i - 64) % 8) (get8 ((i - 64) / 8 % 8) (get8 ((i - 64) / 64) t.hi))
theorem getF_eq (i : Nat) (t : Fr) : (getF i).f t = t.get i := by
  unfold getF Fr.get
  by_cases h : i < 64
  · have : Nat.blt i 64 = true := by simp [Nat.blt]; omega
    rw [this, if_pos h]
    simp only [sel8_eq]
  · have : Nat.blt i 64 = false := by
      cases hb : Nat.blt i 64
      · rfl
      · exact absurd (Nat.le_of_ble_eq_true hb) (by omega)
    rw [this, if_neg h]
    simp only [sel8_eq]
theorem setF_get {i j : Nat} (hi : i < 512) (hj : j < 512) (t : Fr) (v : AV) : ((setF j).f t v).get i = if i = j then v else t.get i := by
  unfold setF
  by_cases h : j < 64
  · have hb : Nat.blt j 64 = true := by simp [Nat.blt]; omega
    rw [hb]
    simp only [sel8_eq, put8_eq]
    unfold Fr.get
    by_cases h2 : i < 64
    · rw [if_pos h2, if_pos h2]
      simp only
      rw [get8_set8 (by omega) (by omega)]
      by_cases h3 : i / 8 = j / 8
      · rw [if_pos h3, get8_set8 (by omega) (by omega), ← h3]
        by_cases h4 : i = j
        · rw [if_pos h4, if_pos (by omega)]
        · rw [if_neg h4, if_neg (by omega)]
      · rw [if_neg h3, if_neg (by omega)]
    · rw [if_neg h2, if_neg h2, if_neg (by omega)]
  · have hb : Nat.blt j 64 = false := by
      cases hb : Nat.blt j 64
      · rfl
      · exact absurd (Nat.le_of_ble_eq_true hb) (by omega)
    rw [hb]
    simp only [sel8_eq, put8_eq]
    unfold Fr.get
    by_cases h2 : i < 64
    · rw [if_pos h2, if_pos h2, if_neg (by omega)]
    · rw [if_neg h2, if_neg h2]
      simp only
      rw [get8_set8 (by omega) (by omega)]
      by_cases h3 : (i - 64) / 64 = (j - 64) / 64
      · rw [if_pos h3, get8_set8 (by omega) (by omega), ← h3]
        by_cases h4 : (i - 64) / 8 % 8 = (j - 64) / 8 % 8
        · rw [if_pos h4, get8_set8 (by omega) (by omega), ← h4]
          by_cases h5 : i = j
          · rw [if_pos h5, if_pos (by omega)]
          · rw [if_neg h5, if_neg (by omega)]
        · rw [if_neg h4, if_neg (by omega)]
      · rw [if_neg h3, if_neg (by omega)]
theorem frame0_get (i : Nat) : frame0.get i = AV.undef := by
  unfold Fr.get frame0
  split <;> simp only [get8_rep]

section
variable {β : Type} {r : β}
theorem nthK_some : ∀ {l : List AV} {n : Nat} {k : AV → Option β}, nthK none l n k = some r → ∃ a, l[n]? = some a ∧ k a = some r
  | [], n, k, h => by cases h
  | a :: l, 0, k, h => ⟨a, rfl, h⟩
  | a :: l, n + 1, k, h => by
    obtain ⟨b, h1, h2⟩ := nthK_some (l := l) (n := n) h
    exact ⟨b, by simpa using h1, h2⟩
theorem snthK_some : ∀ {l : List UInt8} {n : Nat} {k : UInt8 → Option β}, snthK none l n k = some r → ∃ a, l[n]? = some a ∧ k a = some r
  | [], n, k, h => by cases h
  | a :: l, 0, k, h => ⟨a, rfl, h⟩
  | a :: l, n + 1, k, h => by
    obtain ⟨b, h1, h2⟩ := snthK_some (l := l) (n := n) h
    exact ⟨b, by simpa using h1, h2⟩
theorem takeK_some : ∀ {l : List AV} {o n : Nat} {k : List AV → Option β}, takeK none l o n k = some r → (o + n ≤ l.length ∨ n = 0) ∧ k ((l.drop o).take n) = some r
  | [], o, 0, k, h => ⟨.inr rfl, by rw [List.take_zero]; exact h⟩
  | [], o, n + 1, k, h => by cases h
  | a :: l, 0, 0, k, h => ⟨.inr rfl, h⟩
  | a :: l, 0, n + 1, k, h => by
    obtain ⟨h1, h2⟩ := takeK_some (l := l) (o := 0) (n := n) (k := fun r => k (a :: r)) h
    refine ⟨.inl ?_, by simpa using h2⟩
    rcases h1 with h1 | h1 <;> simp <;> omega
  | a :: l, o + 1, n, k, h => by
    obtain ⟨h1, h2⟩ := takeK_some (l := l) (o := o) (n := n) (k := k) h
    refine ⟨?_, by simpa using h2⟩
    rcases h1 with h1 | h1
    · exact .inl (by simp; omega)
    · exact .inr h1
/-- A list with some cells laid over. -/
def over (l : List AV) (o : Nat) (vs : List AV) : List AV := l.take o ++ vs ++ l.drop (o + vs.length)
theorem setK_some : ∀ {l : List AV} {o : Nat} {vs : List AV} {k : List AV → Option β}, setK none l o vs k = some r → (o + vs.length ≤ l.length ∨ vs = []) ∧ k (over l o vs) = some r
  | [], o, [], k, h => ⟨.inr rfl, by rw [show over [] o [] = [] by simp [over]]; exact h⟩
  | [], o, v :: vs, k, h => by cases h
  | a :: l, 0, [], k, h => ⟨.inr rfl, by rw [show over (a :: l) 0 [] = a :: l by simp [over]]; exact h⟩
  | a :: l, 0, v :: vs, k, h => by
    obtain ⟨h1, h2⟩ := setK_some (l := l) (o := 0) (vs := vs) (k := fun r => k (v :: r)) h
    refine ⟨.inl ?_, by simpa [over] using h2⟩
    rcases h1 with h1 | h1
    · simp; omega
    · subst h1; simp
  | a :: l, o + 1, vs, k, h => by
    obtain ⟨h1, h2⟩ := setK_some (l := l) (o := o) (vs := vs) (k := fun r => k (a :: r)) h
    refine ⟨?_, ?_⟩
    · rcases h1 with h1 | h1
      · exact .inl (by simp; omega)
      · exact .inr h1
    · have e : over (a :: l) (o + 1) vs = a :: over l o vs := by
        unfold over
        rw [show o + 1 + vs.length = (o + vs.length) + 1 by omega]
        simp
      rw [e]
      exact h2
end

theorem strEq_iff : ∀ {a b : List UInt8}, strEq a b = true ↔ a = b
  | [], [] => ⟨fun _ => rfl, fun _ => rfl⟩
  | [], b :: bs => by constructor <;> intro h <;> cases h
  | a :: l, [] => by constructor <;> intro h <;> cases h
  | a :: l, b :: bs => by
    show ifB (Nat.beq a.toNat b.toNat) (strEq l bs) false = true ↔ _
    constructor
    · intro h
      cases hb : Nat.beq a.toNat b.toNat with
      | false => rw [hb] at h; cases h
      | true =>
        rw [hb] at h
        have h1 := UInt8.toNat_inj.1 (beq_of hb)
        have h2 := strEq_iff.1 h
        rw [h1, h2]
    · intro h
      cases h
      rw [Nat.beq_refl]
      exact strEq_iff.2 rfl
theorem intLt_eq (x y : Int) : intLt x y = decide (x < y) := by
  cases x with
  | ofNat m => cases y with
    | ofNat n =>
      show Nat.ble (m + 1) n = _
      rw [Bool.eq_iff_iff]
      simp
      omega
    | negSucc n => symm; show _ = false; simp; omega
  | negSucc m => cases y with
    | ofNat n => symm; show _ = true; simp; omega
    | negSucc n =>
      show Nat.ble (n + 1) m = _
      rw [Bool.eq_iff_iff]
      simp
      omega
theorem intEq_eq (x y : Int) : intEq x y = (x == y) := by
  cases x with
  | ofNat m => cases y with
    | ofNat n =>
      show Nat.beq m n = _
      rw [Bool.eq_iff_iff]
      simp
      omega
    | negSucc n => rfl
  | negSucc m => cases y with
    | ofNat n => rfl
    | negSucc n =>
      show Nat.beq m n = _
      rw [Bool.eq_iff_iff]
      simp
theorem wrap_in (n : Int) (h1 : -9223372036854775808 ≤ n) (h2 : n ≤ 9223372036854775807) : IntKind.i64.wrap n = n := by
  unfold IntKind.wrap
  simp only [IntKind.bits, IntKind.signed, Bool.true_and]
  split <;> rename_i h <;> simp at h <;> omega
theorem intAdd_eq (x y : Int) : intAdd x y = IntKind.i64.wrap (x + y) := by
  cases x with
  | ofNat m => cases y with
    | ofNat n =>
      show ifB (Nat.ble (m + n) 9223372036854775807) (Int.ofNat (m + n)) (IntKind.i64.wrap (Int.ofNat m + Int.ofNat n)) = _
      cases hb : Nat.ble (m + n) 9223372036854775807 with
      | false => rfl
      | true =>
        have := Nat.le_of_ble_eq_true hb
        rw [wrap_in _ (by simp; omega) (by simp; omega)]
        rfl
    | negSucc n => rfl
  | negSucc m => rfl
theorem intSub_eq (x y : Int) : intSub x y = IntKind.i64.wrap (x - y) := by
  cases x with
  | ofNat m => cases y with
    | ofNat n =>
      show ifB (Nat.ble n m) (ifB (Nat.ble m 9223372036854775807) (Int.ofNat (m - n)) _) _ = _
      cases hb : Nat.ble n m with
      | false => rfl
      | true => cases hc : Nat.ble m 9223372036854775807 with
        | false => rfl
        | true =>
          have h1 := Nat.le_of_ble_eq_true hb
          have h2 := Nat.le_of_ble_eq_true hc
          rw [wrap_in _ (by simp; omega) (by simp; omega)]
          simp
          omega
    | negSucc n => rfl
  | negSucc m => rfl
end Go.Proofs.YtlclpcobblojnaaGreatDoor
/- The machine for closed runs: what its values and its memory stand for. -/
namespace Go.Proofs.YtlclpcobblojnaaGreatDoor

/-- Where an object lies: its block, the first cell, the block's size, the size of an element. -/
structure Pl where
  blk : Nat
  base : Nat
  sz : Nat
  k : Nat

abbrev Ren := Nat → Option Pl
def Ren.le (r s : Ren) : Prop := ∀ i p, r i = some p → s i = some p
theorem Ren.le_refl (r : Ren) : r.le r := fun _ _ h => h
theorem Ren.le_trans {r s t : Ren} (h : r.le s) (h' : s.le t) : r.le t := fun i p hp => h' i p (h i p hp)
def Ren.set (r : Ren) (i : Nat) (p : Pl) : Ren := fun j => if j = i then some p else r j
theorem Ren.set_same (r : Ren) (i : Nat) (p : Pl) : r.set i p i = some p := if_pos rfl
theorem Ren.le_set {r : Ren} {i : Nat} (p : Pl) (h : r i = none) : r.le (r.set i p) := fun j q hq => by
  unfold Ren.set
  rw [if_neg (fun e => by subst e; rw [h] at hq; cases hq)]
  exact hq

mutual
inductive VR (r : Ren) : AV → Value → Prop
  | int (k : IntKind) (i : Int) : VR r (.int (kindN k) i) (.int k i)
  | bool (b : Bool) : VR r (.bool b) (.bool b)
  | str (s : ByteArray) : VR r (.str s.data.toList) (.string s)
  | pnil : VR r .pnil (.pointer none)
  | ptr {i : Nat} (o : Nat) {p : Pl} (h : r i = some p) : VR r (.ptr i o) (.pointer (some ⟨p.blk, p.base + o, none⟩))
  | snil : VR r .snil (.slice none 0 0)
  | slc {i : Nat} {o n c : Nat} {o' c' : Nat} {p : Pl} (h : r i = some p) (hn : n ≤ c') (hc : c = capU ∨ c = c') (ho : n = 0 ∨ o' = p.base + o) (hs : o' + c' * p.k ≤ p.sz) (hb : p.base ≤ o') (hm : c' ≤ 9223372036854775807) : VR r (.slc i o n c) (.slice (some ⟨p.blk, o', none⟩) n c')
  | mnil : VR r .mnil (.map none)
  | map {i : Nat} {p : Pl} (h : r i = some p) : VR r (.map i) (.map (some p.blk))
  | fnil : VR r .fnil .nilFunc
  | fn (f : Nat) {l : List AV} (a b : Array Value) (h : VRs r l (a.toList ++ b.toList)) : VR r (.fn f a.size l) (.func (.func f) a b)
  | yield {i : Nat} {p : Pl} (h : r i = some p) : VR r (.yield i) (.func (.yield p.blk) #[] #[])
  | agg {l : List AV} (cs : Array Value) (h : VRs r l cs.toList) : VR r (.agg l) (.agg cs)
  | tup {l : List AV} (cs : Array Value) (h : VRs r l cs.toList) : VR r (.tup l) (.tuple cs)
  | junk (v : Value) : VR r .junk v
inductive VRs (r : Ren) : List AV → List Value → Prop
  | nil : VRs r [] []
  | cons {a : AV} {v : Value} {l : List AV} {vs : List Value} (h : VR r a v) (t : VRs r l vs) : VRs r (a :: l) (v :: vs)
end

section
variable {r s : Ren}
mutual
theorem VR.mono (h : r.le s) : ∀ {a : AV} {v : Value}, VR r a v → VR s a v
  | _, _, .int k i => .int k i
  | _, _, .bool b => .bool b
  | _, _, .str b => .str b
  | _, _, .pnil => .pnil
  | _, _, .ptr o hp => .ptr o (h _ _ hp)
  | _, _, .snil => .snil
  | _, _, .slc hp hn hc ho hs hb hm => .slc (h _ _ hp) hn hc ho hs hb hm
  | _, _, .mnil => .mnil
  | _, _, .map hp => .map (h _ _ hp)
  | _, _, .fnil => .fnil
  | _, _, .fn f a b hl => .fn f a b (VRs.mono h hl)
  | _, _, .yield hp => .yield (h _ _ hp)
  | _, _, .agg cs hl => .agg cs (VRs.mono h hl)
  | _, _, .tup cs hl => .tup cs (VRs.mono h hl)
  | _, _, .junk v => .junk v
theorem VRs.mono (h : r.le s) : ∀ {l : List AV} {vs : List Value}, VRs r l vs → VRs s l vs
  | _, _, .nil => .nil
  | _, _, .cons a b => .cons (VR.mono h a) (VRs.mono h b)
end

theorem VRs.length : ∀ {l : List AV} {vs : List Value}, VRs r l vs → l.length = vs.length
  | _, _, .nil => rfl
  | _, _, .cons _ t => by simp [VRs.length t]
theorem VRs.get : ∀ {l : List AV} {vs : List Value}, VRs r l vs → ∀ {i : Nat} {a : AV}, l[i]? = some a → ∃ v, vs[i]? = some v ∧ VR r a v
  | _, _, .nil, i, a, h => by simp at h
  | _, _, .cons ha t, 0, a, h => by
    simp at h
    subst h
    exact ⟨_, rfl, ha⟩
  | _, _, .cons _ t, i + 1, a, h => by
    obtain ⟨v, h1, h2⟩ := VRs.get t (i := i) (by simpa using h)
    exact ⟨v, by simpa using h1, h2⟩
theorem VRs.append : ∀ {l m : List AV} {vs us : List Value}, VRs r l vs → VRs r m us → VRs r (l ++ m) (vs ++ us)
  | _, _, _, _, .nil, h => h
  | _, _, _, _, .cons a t, h => .cons a (VRs.append t h)
theorem VRs.of_get : ∀ {l : List AV} {vs : List Value}, l.length = vs.length → (∀ (i : Nat) (a : AV) (v : Value), l[i]? = some a → vs[i]? = some v → VR r a v) → VRs r l vs
  | [], [], _, _ => .nil
  | a :: l, [], h, _ => by simp at h
  | [], v :: vs, h, _ => by simp at h
  | a :: l, v :: vs, h, H => .cons (H 0 a v rfl rfl) (VRs.of_get (by simpa using h) fun i a v h1 h2 => H (i + 1) a v (by simpa using h1) (by simpa using h2))
theorem VRs.drop : ∀ {l : List AV} {vs : List Value} (n : Nat), VRs r l vs → VRs r (l.drop n) (vs.drop n)
  | _, _, 0, h => h
  | _, _, n + 1, .nil => .nil
  | _, _, n + 1, .cons _ t => by simpa using VRs.drop n t
theorem VRs.take : ∀ {l : List AV} {vs : List Value} (n : Nat), VRs r l vs → VRs r (l.take n) (vs.take n)
  | _, _, 0, h => .nil
  | _, _, n + 1, .nil => .nil
  | _, _, n + 1, .cons a t => by simpa using VRs.cons a (VRs.take n t)

theorem VR.undef : VR r AV.undef undef := .tup #[] .nil

/-- What a value is, by its tag. -/
theorem VR.inv0 {a : AV} {v : Value} (h : VR r a v) (ht : a.tag = 0) : ∃ k, v = .int k a.i ∧ a.a = kindN k := by
  cases h <;> first | (cases ht; done) | exact ⟨_, rfl, rfl⟩
theorem VR.inv1 {a : AV} {v : Value} (h : VR r a v) (ht : a.tag = 1) : ∃ b : Bool, v = .bool b ∧ a.a = b.toNat := by
  cases h <;> first | (cases ht; done) | exact ⟨_, rfl, rfl⟩
theorem VR.inv2 {a : AV} {v : Value} (h : VR r a v) (ht : a.tag = 2) : ∃ s, v = .string s ∧ a.s = s.data.toList := by
  cases h <;> first | (cases ht; done) | exact ⟨_, rfl, rfl⟩
theorem VR.inv3 {a : AV} {v : Value} (h : VR r a v) (ht : a.tag = 3) (ha : a.a = 1) : ∃ p, r a.b = some p ∧ v = .pointer (some ⟨p.blk, p.base + a.c, none⟩) ∧ a = .ptr a.b a.c := by
  cases h <;> first | (cases ht; done) | (cases ha; done) | exact ⟨_, by assumption, rfl, rfl⟩
theorem VR.inv3n {a : AV} {v : Value} (h : VR r a v) (ht : a.tag = 3) (ha : a.a ≠ 1) : v = .pointer none ∧ a = .pnil := by
  cases h <;> first | (cases ht; done) | exact absurd rfl ha | exact ⟨rfl, rfl⟩
theorem VR.inv4 {a : AV} {v : Value} (h : VR r a v) (ht : a.tag = 4) (ha : a.a = 1) : ∃ p o' c', r a.b = some p ∧ v = .slice (some ⟨p.blk, o', none⟩) a.d c' ∧ a.d ≤ c' ∧ (a.e = capU ∨ a.e = c') ∧ (a.d = 0 ∨ o' = p.base + a.c) ∧ o' + c' * p.k ≤ p.sz ∧ p.base ≤ o' ∧ c' ≤ 9223372036854775807 := by
  cases h <;> first | (cases ht; done) | (cases ha; done) | exact ⟨_, _, _, by assumption, rfl, by assumption, by assumption, by assumption, by assumption, by assumption, by assumption⟩
theorem VR.inv4n {a : AV} {v : Value} (h : VR r a v) (ht : a.tag = 4) (ha : a.a ≠ 1) : v = .slice none 0 0 ∧ a = .snil := by
  cases h <;> first | (cases ht; done) | exact absurd rfl ha | exact ⟨rfl, rfl⟩
theorem VR.inv5 {a : AV} {v : Value} (h : VR r a v) (ht : a.tag = 5) (ha : a.a = 1) : ∃ p, r a.b = some p ∧ v = .map (some p.blk) := by
  cases h <;> first | (cases ht; done) | (cases ha; done) | exact ⟨_, by assumption, rfl⟩
theorem VR.inv5n {a : AV} {v : Value} (h : VR r a v) (ht : a.tag = 5) (ha : a.a ≠ 1) : v = .map none ∧ a = .mnil := by
  cases h <;> first | (cases ht; done) | exact absurd rfl ha | exact ⟨rfl, rfl⟩
theorem VR.inv6 {a : AV} {v : Value} (h : VR r a v) (ht : a.tag = 6) (ha : a.a = 1) : ∃ x y : Array Value, v = .func (.func a.b) x y ∧ a.c = x.size ∧ VRs r a.l (x.toList ++ y.toList) := by
  cases h <;> first | (cases ht; done) | (cases ha; done) | exact ⟨_, _, rfl, rfl, by assumption⟩
theorem VR.inv6y {a : AV} {v : Value} (h : VR r a v) (ht : a.tag = 6) (ha : a.a = 2) : ∃ p, r a.b = some p ∧ v = .func (.yield p.blk) #[] #[] := by
  cases h <;> first | (cases ht; done) | (cases ha; done) | exact ⟨_, by assumption, rfl⟩
theorem VR.inv6n {a : AV} {v : Value} (h : VR r a v) (ht : a.tag = 6) (ha : a.a = 0) : v = .nilFunc := by
  cases h <;> first | (cases ht; done) | (cases ha; done) | rfl
theorem VR.inv6f {a : AV} {v : Value} (h : VR r a v) (ht : a.tag = 6) (ha : a.a ≠ 0) : ∃ f x y, v = .func f x y ∧ ((∃ n, f = .func n) ∨ ∃ n, f = .yield n) := by
  cases h <;> first | (cases ht; done) | exact absurd rfl ha | exact ⟨_, _, _, rfl, .inl ⟨_, rfl⟩⟩ | exact ⟨_, _, _, rfl, .inr ⟨_, rfl⟩⟩
theorem VR.inv7 {a : AV} {v : Value} (h : VR r a v) (ht : a.tag = 7) : ∃ cs : Array Value, v = .agg cs ∧ VRs r a.l cs.toList := by
  cases h <;> first | (cases ht; done) | exact ⟨_, rfl, by assumption⟩
theorem VR.inv8 {a : AV} {v : Value} (h : VR r a v) (ht : a.tag = 8) : ∃ cs : Array Value, v = .tuple cs ∧ VRs r a.l cs.toList := by
  cases h <;> first | (cases ht; done) | exact ⟨_, rfl, by assumption⟩
theorem VR.one {a : AV} {v : Value} (h : VR r a v) (ht : a.tag ≤ 6) : v.oneCell' = true ∧ v.cells = #[v] := by
  cases h <;> first | exact ⟨rfl, rfl⟩ | (simp [AV.agg, AV.tup, AV.junk] at ht; done)
/-- The cells of a value. -/
theorem VR.cells {a : AV} {v : Value} (h : VR r a v) (ht : a.tag ≤ 7) : VRs r (cellsOfV a) v.cells.toList := by
  by_cases h7 : a.tag = 7
  · obtain ⟨cs, rfl, hl⟩ := h.inv7 h7
    unfold cellsOfV
    rw [h7]
    exact hl
  · have h2 := (h.one (by omega)).2
    rw [h2]
    unfold cellsOfV
    have : Nat.beq a.tag 7 = false := by
      cases hb : Nat.beq a.tag 7
      · rfl
      · exact absurd (beq_of hb) h7
    rw [this]
    exact .cons h .nil
end

theorem kindOf_kindN (k : IntKind) : kindOf (kindN k) = k := by cases k <;> rfl
theorem kindN_inj {k k' : IntKind} (h : kindN k = kindN k') : k = k' := by rw [← kindOf_kindN k, h, kindOf_kindN]

theorem VR_ofV1 (r : Ren) (v : Value) : VR r (ofV1 v) v := by
  unfold ofV1
  split <;> try (first | constructor | skip; done)
  all_goals first
    | exact .int _ _
    | exact .junk _
    | skip
  · rename_i f a b
    split
    · rename_i h1 h2
      have ha : a = #[] := by simpa using h1
      have hb : b = #[] := by simpa using h2
      subst ha hb
      exact .fn f #[] #[] .nil
    · exact .junk _
theorem VRs_ofV1 (r : Ren) : ∀ (l : List Value), VRs r (l.map ofV1) l
  | [] => .nil
  | v :: l => .cons (VR_ofV1 r v) (VRs_ofV1 r l)
theorem VR_ofV (r : Ren) (v : Value) : VR r (ofV v) v := by
  unfold ofV
  split
  · exact .agg _ (VRs_ofV1 r _)
  · exact .tup _ (VRs_ofV1 r _)
  · exact VR_ofV1 r v

theorem toV1_eq {r : Ren} {a : AV} {v x : Value} (h : VR r a v) (hx : toV1 a = some x) : v = x := by
  cases h <;> simp only [toV1, AV.int, AV.bool, AV.str, AV.pnil, AV.ptr, AV.snil, AV.slc, AV.mnil, AV.map, AV.fnil, AV.fn, AV.yield, AV.agg, AV.tup, AV.junk] at hx <;> first
    | (cases hx; done)
    | (rw [kindOf_kindN] at hx; exact Option.some.inj hx)
    | exact Option.some.inj hx
    | skip
  rename_i b
  cases b <;> exact Option.some.inj hx
theorem toVs_eq {r : Ren} : ∀ {l : List AV} {vs xs : List Value}, VRs r l vs → toVs l = some xs → vs = xs
  | _, _, xs, .nil, h => by simpa [toVs] using h
  | _, _, xs, .cons (a := a) (l := l) ha t, h => by
    unfold toVs at h
    cases h1 : toV1 a with
    | none => rw [h1] at h; cases h
    | some x =>
      rw [h1] at h
      simp only at h
      cases h2 : toVs l with
      | none => rw [h2] at h; cases h
      | some ys =>
        rw [h2] at h
        cases h
        rw [toV1_eq ha h1, toVs_eq t h2]
theorem toV_eq {r : Ren} {a : AV} {v x : Value} (h : VR r a v) (hx : toV a = some x) : v = x := by
  unfold toV at hx
  split at hx
  · rename_i ht
    obtain ⟨cs, rfl, hl⟩ := h.inv7 ht
    cases h1 : toVs a.l with
    | none => rw [h1] at hx; cases hx
    | some ys =>
      rw [h1] at hx
      cases hx
      rw [← toVs_eq hl h1]
  · rename_i ht
    obtain ⟨cs, rfl, hl⟩ := h.inv8 ht
    cases h1 : toVs a.l with
    | none => rw [h1] at hx; cases hx
    | some ys =>
      rw [h1] at hx
      cases hx
      rw [← toVs_eq hl h1]
  · exact toV1_eq h hx
end Go.Proofs.YtlclpcobblojnaaGreatDoor
/- The machine for closed runs: its memory and the model's. -/
namespace Go.Proofs.YtlclpcobblojnaaGreatDoor

def FrR (r : Ren) (t : Fr) (tmps : Array Value) : Prop := ∀ i, i < 512 → VR r (t.get i) (tmps.getD i undef)
theorem FrR.mono {r s : Ren} (h : r.le s) {t : Fr} {tmps : Array Value} (hf : FrR r t tmps) : FrR s t tmps := fun i hi => (hf i hi).mono h

/-- Entries of maps. -/
inductive MEs (r : Ren) : List ME → List MapEntry → Prop
  | nil : MEs r [] []
  | cons {e : ME} {E : MapEntry} {l : List ME} {L : List MapEntry} (hk : VR r e.key E.key) (hv : VR r e.val E.val) (hb : E.born = e.born) (t : MEs r l L) : MEs r (e :: l) (E :: L)
theorem MEs.mono {r s : Ren} (h : r.le s) : ∀ {l : List ME} {L : List MapEntry}, MEs r l L → MEs s l L
  | _, _, .nil => .nil
  | _, _, .cons hk hv hb t => .cons (hk.mono h) (hv.mono h) hb (MEs.mono h t)
theorem MEs.length {r : Ren} : ∀ {l : List ME} {L : List MapEntry}, MEs r l L → l.length = L.length
  | _, _, .nil => rfl
  | _, _, .cons _ _ _ t => by simp [MEs.length t]
theorem MEs.append {r : Ren} : ∀ {l m : List ME} {L M : List MapEntry}, MEs r l L → MEs r m M → MEs r (l ++ m) (L ++ M)
  | _, _, _, _, .nil, h => h
  | _, _, _, _, .cons a b c t, h => .cons a b c (MEs.append t h)

def jumpOf (x o : Nat) : Option Code := if x = 0 then none else if x = 1 then some (.exit o) else some .ret
def stateOf : Nat → LoopState
  | 0 => .ready | 1 => .busy | 2 => .done | _ => .exhausted

/-- An object of the machine's, in its block. -/
inductive ObR (P : Program) (r : Ren) (p : Pl) (w : World) : OB → Prop
  | arr {cs : List AV} {e : Nat} {cur : Array Value} {fz : Nat × Nat} (h : w.heap[p.blk]? = some (.cells cur e fz)) (hf : fz = (0, 0) ∨ cur.size ≤ fz.1) (hz : cur.size = p.sz) (hb : p.base + cs.length ≤ p.sz) (hk : szA P e = some p.k)
      (hc : ∀ (j : Nat) (a : AV), cs[j]? = some a → ∃ v, cur[p.base + j]? = some v ∧ VR r a v) : ObR P r p w (.arr cs e)
  | map {es : List ME} {c : Nat} {cur : Array MapEntry} (h : w.heap[p.blk]? = some (.map cur c)) (he : MEs r es cur.toList) (hb : ∀ e ∈ es, e.born < c) : ObR P r p w (.map es c)
  | lit {es : List ME} {c : Nat} {cur : Array MapEntry} (h : w.heap[p.blk]? = some (.map cur c)) (h1 : ∀ E ∈ cur.toList, ∃ e ∈ es, VR r e.key E.key ∧ VR r e.val E.val) (h2 : ∀ e ∈ es, ∃ E ∈ cur.toList, VR r e.key E.key ∧ VR r e.val E.val) (hd : es.Pairwise fun e f => e.key ≠ f.key) (ht : ∀ e ∈ es, ∀ f ∈ es, e.key.tag = f.key.tag ∧ e.key.a = f.key.a) : ObR P r p w (.lit es)
  | iter {m since : Nat} {seen : List Nat} {pm : Pl} (h : w.heap[p.blk]? = some (.mapIter (some pm.blk) since seen.reverse.toArray since)) (hm : r m = some pm) (hb : p.base = 0) : ObR P r p w (.iter m since seen)
  | loop {n x o st : Nat} {t : Fr} {ps : List Tmp} {asg body : Code} {L : Loop} (h : w.heap[p.blk]? = some (.loop L)) (ht : FrR r t L.tmps) (hp : L.params.toList = ps) (ha : L.assign = asg) (hb : L.body = body) (hs : L.state = stateOf st) (hj : L.pending = jumpOf x o) (hn : L.tmps.size = n ∧ n ≤ 512)
      : ObR P r p w (.loop x o st (n, t, ps, asg, body))

theorem ObR.mono {P : Program} {r s : Ren} (h : r.le s) {p : Pl} {w : World} {o : OB} (ho : ObR P r p w o) : ObR P s p w o := by
  cases ho with
  | arr h1 h2 h3 h4 h5 h6 => exact .arr h1 h2 h3 h4 h5 fun j a ha => let ⟨v, hv, hr⟩ := h6 j a ha; ⟨v, hv, hr.mono h⟩
  | map h1 h2 h3 => exact .map h1 (h2.mono h) h3
  | lit h1 h2 h3 h4 h5 => exact .lit h1 (fun E hE => let ⟨e, q1, q2, q3⟩ := h2 E hE; ⟨e, q1, q2.mono h, q3.mono h⟩) (fun e he => let ⟨E, q1, q2, q3⟩ := h3 e he; ⟨E, q1, q2.mono h, q3.mono h⟩) h4 h5
  | iter h1 h2 h3 => exact .iter h1 (h _ _ h2) h3
  | loop h1 h2 h3 h4 h5 h6 h7 h8 => exact .loop h1 (h2.mono h) h3 h4 h5 h6 h7 h8
theorem ObR.same {P : Program} {r : Ren} {p : Pl} {w w' : World} {o : OB} (hw : w'.heap[p.blk]? = w.heap[p.blk]?) (ho : ObR P r p w o) : ObR P r p w' o := by
  cases ho with
  | arr h1 h2 h3 h4 h5 h6 => exact .arr (hw.trans h1) h2 h3 h4 h5 h6
  | map h1 h2 h3 => exact .map (hw.trans h1) h2 h3
  | lit h1 h2 h3 h4 h5 => exact .lit (hw.trans h1) h2 h3 h4 h5
  | iter h1 h2 h3 => exact .iter (hw.trans h1) h2 h3
  | loop h1 h2 h3 h4 h5 h6 h7 h8 => exact .loop (hw.trans h1) h2 h3 h4 h5 h6 h7 h8

structure Rel (P : Program) (r : Ren) (h : AH) (w : World) : Prop where
  small : ∀ i o, h.get i = some o → i + 1 < 16777216
  live : ∀ i o p, h.get i = some o → r i = some p → ObR P r p w o
  inj : ∀ i j o o' p q, h.get i = some o → h.get j = some o' → r i = some p → r j = some q → p.blk = q.blk → i = j
  dom : ∀ i p, r i = some p → i < h.next ∧ p.blk < w.heap.size
  top : ∀ i o, h.get i = some o → i < h.next

/-- What a step leaves: blocks that no live object lies in stay as they are; an object lies in a new block, or where a live one lay. -/
structure Post (P : Program) (r : Ren) (h : AH) (w : World) (s : Ren) (h' : AH) (w' : World) : Prop where
  rel : Rel P s h' w'
  ext : r.le s
  new : ∀ i p, s i = some p → r i = some p ∨ (h.next ≤ i ∧ i < h'.next)
  nxt : h.next ≤ h'.next
  size : w.heap.size ≤ w'.heap.size
  frame : ∀ b, b < w.heap.size → (∀ i o p, h.get i = some o → r i = some p → p.blk ≠ b) → w'.heap[b]? = w.heap[b]?
  own : ∀ i o p, h'.get i = some o → s i = some p → w.heap.size ≤ p.blk ∨ ∃ j o' q, h.get j = some o' ∧ r j = some q ∧ q.blk = p.blk
  keep : ∀ i, i < h.next → r i = none → h'.get i = h.get i
  os : w'.os = w.os
  tape : w'.tape = w.tape
  output : w'.output = w.output

theorem Post.refl {P : Program} {r : Ren} {h : AH} {w : World} (hr : Rel P r h w) : Post P r h w r h w :=
  ⟨hr, r.le_refl, fun _ _ h => .inl h, Nat.le_refl _, Nat.le_refl _, fun _ _ _ => rfl, fun i o p h1 h2 => .inr ⟨i, o, p, h1, h2, rfl⟩, fun _ _ _ => rfl, rfl, rfl, rfl⟩
theorem Post.trans {P : Program} {r s t : Ren} {h h' h'' : AH} {w w' w'' : World} (a : Post P r h w s h' w') (b : Post P s h' w' t h'' w'') : Post P r h w t h'' w'' := by
  refine ⟨b.rel, Ren.le_trans a.ext b.ext, fun i p hp => ?_, Nat.le_trans a.nxt b.nxt, Nat.le_trans a.size b.size, fun k hk hno => ?_, fun i o p h1 h2 => ?_, fun i hi hn => ?_, b.os.trans a.os, b.tape.trans a.tape, b.output.trans a.output⟩
  · rcases b.new i p hp with h1 | h1
    · rcases a.new i p h1 with h2 | h2
      · exact .inl h2
      · exact .inr ⟨h2.1, Nat.lt_of_lt_of_le h2.2 b.nxt⟩
    · exact .inr ⟨Nat.le_trans a.nxt h1.1, h1.2⟩
  · rw [b.frame k (Nat.lt_of_lt_of_le hk a.size) fun i o p h1 h2 e => ?_, a.frame k hk hno]
    rcases a.own i o p h1 h2 with h3 | ⟨j, o', q, h3, h4, h5⟩
    · omega
    · exact hno j o' q h3 h4 (h5.trans e)
  · rcases b.own i o p h1 h2 with h3 | ⟨j, o', q, h3, h4, h5⟩
    · exact .inl (Nat.le_trans a.size h3)
    · rcases a.own j o' q h3 h4 with h6 | ⟨k, o2, q2, h6, h7, h8⟩
      · exact .inl (h5 ▸ h6)
      · exact .inr ⟨k, o2, q2, h6, h7, h8.trans h5⟩
  · refine (b.keep i (Nat.lt_of_lt_of_le hi a.nxt) ?_).trans (a.keep i hi hn)
    cases hs : s i with
    | none => rfl
    | some p => rcases a.new i p hs with h1 | h1
                · rw [hn] at h1; cases h1
                · omega

section
variable {P : Program} {r : Ren} {h : AH} {w : World}

theorem Rel.fresh (hr : Rel P r h w) : r h.next = none := by
  cases hp : r h.next with
  | none => rfl
  | some p => exact absurd (hr.dom _ _ hp).1 (Nat.lt_irrefl _)

theorem Rel.top_new (hr : Rel P r h w) (ob : OB) {i : Nat} {o' : OB} (hi : (h.new ob).get i = some o') : i < (h.new ob).next := by
  rw [AH.get_new] at hi
  split at hi
  · rename_i e; rw [e.1]; exact Nat.lt_succ_self _
  · exact Nat.lt_succ_of_lt (hr.top _ _ hi)
theorem heap_push_old (w : World) (O : Obj) {b : Nat} (hb : b < w.heap.size) : (w.alloc O).heap[b]? = w.heap[b]? := by
  show (w.heap.push O)[b]? = _
  rw [Array.getElem?_push, if_neg (Nat.ne_of_lt hb)]
theorem heap_push_new (w : World) (O : Obj) : (w.alloc O).heap[w.heap.size]? = some O := by
  show (w.heap.push O)[w.heap.size]? = _
  simp

/-- A new object. -/
theorem Post.alloc (hr : Rel P r h w) {o : OB} {O : Obj} {p : Pl} (hp : p.blk = w.heap.size) (ho : ObR P (r.set h.next p) p (w.alloc O) o) :
    Post P r h w (r.set h.next p) (h.new o) (w.alloc O) := by
  have hle : r.le (r.set h.next p) := r.le_set p hr.fresh
  have hset : ∀ i q, r.set h.next p i = some q → (i = h.next ∧ q = p) ∨ r i = some q := fun i q hq => by
    unfold Ren.set at hq
    by_cases e : i = h.next
    · rw [if_pos e] at hq; cases hq; exact .inl ⟨e, rfl⟩
    · rw [if_neg e] at hq; exact .inr hq
  have hget : ∀ i o', (h.new o).get i = some o' → (i = h.next ∧ o' = o ∧ h.next + 1 < 16777216) ∨ (i ≠ h.next ∧ h.get i = some o') ∨ (i = h.next ∧ h.get i = some o' ∧ ¬ h.next + 1 < 16777216) := fun i o' hi => by
    rw [AH.get_new] at hi
    by_cases e : i = h.next
    · by_cases e2 : h.next + 1 < 16777216
      · rw [if_pos ⟨e, e2⟩] at hi; cases hi; exact .inl ⟨e, rfl, e2⟩
      · rw [if_neg (fun x => e2 x.2)] at hi; exact .inr (.inr ⟨e, hi, e2⟩)
    · rw [if_neg (fun x => e x.1)] at hi; exact .inr (.inl ⟨e, hi⟩)
  have hne : ∀ i o', (h.new o).get i = some o' → i ≠ h.next → h.get i = some o' := fun i o' hi e => by
    rcases hget i o' hi with h1 | h1 | h1
    · exact absurd h1.1 e
    · exact h1.2
    · exact h1.2.1
  have hsm : ∀ i o', (h.new o).get i = some o' → i = h.next → o' = o := fun i o' hi e => by
    rcases hget i o' hi with h1 | h1 | h1
    · exact h1.2.1
    · exact absurd e h1.1
    · have := hr.small _ _ h1.2.1
      exact absurd (e ▸ this) h1.2.2
  refine ⟨⟨fun i o' hi => ?_, fun i o' q hi hq => ?_, fun i j o1 o2 q1 q2 h1 h2 h3 h4 he => ?_, fun i q hq => ?_, fun i o' hi => hr.top_new _ hi⟩, hle, fun i q hq => ?_, by simp, by simp, fun b hb _ => heap_push_old w O hb, fun i o' q hi hq => ?_, fun i hi _ => by rw [AH.get_new, if_neg (fun e => Nat.lt_irrefl _ (e.1 ▸ hi))], rfl, rfl, rfl⟩
  · rcases hget i o' hi with h1 | h1 | h1
    · omega
    · exact hr.small _ _ h1.2
    · exact hr.small _ _ h1.2.1
  · rcases hset i q hq with ⟨e, rfl⟩ | h1
    · rw [hsm i o' hi e]; exact ho
    · have e : i ≠ h.next := fun e => by rw [e, hr.fresh] at h1; cases h1
      exact ((hr.live i o' q (hne i o' hi e) h1).mono hle).same (heap_push_old w O (hr.dom _ _ h1).2)
  · rcases hset i q1 h3 with ⟨e, rfl⟩ | h5 <;> rcases hset j q2 h4 with ⟨e', rfl⟩ | h6
    · exact e.trans e'.symm
    · exact absurd (hr.dom _ _ h6).2 (by omega)
    · exact absurd (hr.dom _ _ h5).2 (by omega)
    · have e : i ≠ h.next := fun e => by rw [e, hr.fresh] at h5; cases h5
      have e' : j ≠ h.next := fun e => by rw [e, hr.fresh] at h6; cases h6
      exact hr.inj i j o1 o2 q1 q2 (hne i o1 h1 e) (hne j o2 h2 e') h5 h6 he
  · rcases hset i q hq with ⟨e, rfl⟩ | h1
    · simp [e, hp]
    · have := hr.dom _ _ h1
      simp
      omega
  · rcases hset i q hq with ⟨e, rfl⟩ | h1
    · exact .inr (by simp [e])
    · exact .inl h1
  · rcases hset i q hq with ⟨e, rfl⟩ | h1
    · exact .inl (by omega)
    · have e : i ≠ h.next := fun e => by rw [e, hr.fresh] at h1; cases h1
      exact .inr ⟨i, o', q, hne i o' hi e, h1, rfl⟩

/-- What an allocation leaves whose object lay in the machine's memory ahead of it. -/
structure LPost (P : Program) (r : Ren) (g : AH) (w : World) (i : Nat) (s : Ren) (w' : World) : Prop where
  rel : Rel P s g w'
  ext : r.le s
  new : ∀ j p, s j = some p → r j = some p ∨ (j = i ∧ w.heap.size ≤ p.blk)
  size : w.heap.size ≤ w'.heap.size
  frame : ∀ b, b < w.heap.size → w'.heap[b]? = w.heap[b]?
  os : w'.os = w.os
  tape : w'.tape = w.tape
  output : w'.output = w.output
theorem LPost.alloc {g : AH} {i : Nat} {ob : OB} (hr : Rel P r g w) (hn : r i = none) (hi : i < g.next) (hob : ∀ o', g.get i = some o' → o' = ob) {O : Obj} {p : Pl} (hp : p.blk = w.heap.size) (ho : ObR P (r.set i p) p (w.alloc O) ob) :
    LPost P r g w i (r.set i p) (w.alloc O) := by
  have hle : r.le (r.set i p) := r.le_set p hn
  have hset : ∀ j q, r.set i p j = some q → (j = i ∧ q = p) ∨ (j ≠ i ∧ r j = some q) := fun j q hq => by
    unfold Ren.set at hq
    by_cases e : j = i
    · rw [if_pos e] at hq; cases hq; exact .inl ⟨e, rfl⟩
    · rw [if_neg e] at hq; exact .inr ⟨e, hq⟩
  refine ⟨⟨hr.small, fun j o' q hj hq => ?_, fun j k o1 o2 q1 q2 h1 h2 h3 h4 he => ?_, fun j q hq => ?_, hr.top⟩, hle, fun j q hq => ?_, by simp, fun b hb => heap_push_old w O hb, rfl, rfl, rfl⟩
  · rcases hset j q hq with ⟨e, rfl⟩ | ⟨e, h1⟩
    · rw [hob o' (e ▸ hj)]; exact ho
    · exact ((hr.live j o' q hj h1).mono hle).same (heap_push_old w O (hr.dom _ _ h1).2)
  · rcases hset j q1 h3 with ⟨e, rfl⟩ | ⟨e, h5⟩ <;> rcases hset k q2 h4 with ⟨e', rfl⟩ | ⟨e', h6⟩
    · exact e.trans e'.symm
    · exact absurd (hr.dom _ _ h6).2 (by omega)
    · exact absurd (hr.dom _ _ h5).2 (by omega)
    · exact hr.inj j k o1 o2 q1 q2 h1 h2 h5 h6 he
  · rcases hset j q hq with ⟨e, rfl⟩ | ⟨e, h1⟩
    · simp [e, hp, hi]
    · have := hr.dom _ _ h1
      simp
      omega
  · rcases hset j q hq with ⟨e, rfl⟩ | ⟨e, h1⟩
    · exact .inr ⟨e, by omega⟩
    · exact .inl h1
theorem Rel.new (hr : Rel P r h w) (ob : OB) : Rel P r (h.new ob) w := by
  have hne : ∀ i o' q, (h.new ob).get i = some o' → r i = some q → h.get i = some o' := fun i o' q hi hq => by
    rw [AH.get_new] at hi
    split at hi
    · rename_i e
      rw [e.1, hr.fresh] at hq; cases hq
    · exact hi
  refine ⟨fun i o' hi => ?_, fun i o' q hi hq => hr.live i o' q (hne i o' q hi hq) hq, fun i j o o' p q h1 h2 h3 h4 he => hr.inj i j o o' p q (hne _ _ _ h1 h3) (hne _ _ _ h2 h4) h3 h4 he, fun i p hp => ?_, fun i o' hi => hr.top_new _ hi⟩
  · rw [AH.get_new] at hi
    split at hi
    · rename_i e; omega
    · exact hr.small _ _ hi
  · have := hr.dom _ _ hp
    simp
    omega
theorem LPost.post {ob : OB} {s : Ren} {w' : World} (hr : Rel P r h w) (hp : LPost P r (h.new ob) w h.next s w') : Post P r h w s (h.new ob) w' := by
  refine ⟨hp.rel, hp.ext, fun i q hq => ?_, by simp, hp.size, fun b hb _ => hp.frame b hb, fun i o' q hi hq => ?_, fun i hi _ => by rw [AH.get_new, if_neg (fun e => Nat.lt_irrefl _ (e.1 ▸ hi))], hp.os, hp.tape, hp.output⟩
  · rcases hp.new i q hq with h1 | h1
    · exact .inl h1
    · exact .inr (by simp [h1.1])
  · rcases hp.new i q hq with h1 | h1
    · rw [AH.get_new] at hi
      split at hi
      · rename_i e
        rw [e.1, hr.fresh] at h1; cases h1
      · exact .inr ⟨i, o', q, hi, h1, rfl⟩
    · exact .inl h1.2

/-- A live object is written. -/
theorem Post.put (hr : Rel P r h w) {i : Nat} {o o' : OB} {p : Pl} {w' : World} (hi : h.get i = some o) (hp : r i = some p) (hz : w'.heap.size = w.heap.size) (hb : ∀ b, b ≠ p.blk → w'.heap[b]? = w.heap[b]?) (ho : ObR P r p w' o')
    (h1 : w'.os = w.os) (h2 : w'.tape = w.tape) (h3 : w'.output = w.output) : Post P r h w r (h.put i (some o')) w' := by
  have hsm := hr.small _ _ hi
  have hget : ∀ j x, (h.put i (some o')).get j = some x → (j = i ∧ x = o') ∨ (j ≠ i ∧ h.get j = some x) := fun j x hj => by
    rw [AH.get_put] at hj
    by_cases e : j = i
    · rw [if_pos ⟨e, hsm⟩] at hj; cases hj; exact .inl ⟨e, rfl⟩
    · rw [if_neg (fun y => e y.1)] at hj; exact .inr ⟨e, hj⟩
  refine ⟨⟨fun j x hj => ?_, fun j x q hj hq => ?_, fun j k x y q1 q2 hj hk hq1 hq2 he => ?_, fun j q hq => ?_, fun j x hj => (hget j x hj).elim (fun e => (hr.top _ _ (e.1.symm ▸ hi) : j < h.next)) fun e => hr.top _ _ e.2⟩, r.le_refl, fun _ _ h => .inl h, Nat.le_refl _, by omega, fun b hb' hno => hb b fun e => hno i o p hi hp e.symm, fun j x q hj hq => ?_, fun j _ hn => by rw [AH.get_put, if_neg (fun e => by rw [e.1, hp] at hn; cases hn)], h1, h2, h3⟩
  · rcases hget j x hj with ⟨e, -⟩ | h4
    · exact e ▸ hsm
    · exact hr.small _ _ h4.2
  · rcases hget j x hj with ⟨e, e2⟩ | ⟨e, h4⟩
    · subst e e2
      rw [hp] at hq
      cases hq
      exact ho
    · exact (hr.live j x q h4 hq).same (hb _ fun e2 => e (hr.inj _ _ _ _ _ _ h4 hi hq hp e2))
  · have hj' : ∃ x', h.get j = some x' := (hget j x hj).elim (fun e => ⟨o, e.1 ▸ hi⟩) fun e => ⟨x, e.2⟩
    have hk' : ∃ x', h.get k = some x' := (hget k y hk).elim (fun e => ⟨o, e.1 ▸ hi⟩) fun e => ⟨y, e.2⟩
    obtain ⟨x', hx'⟩ := hj'
    obtain ⟨y', hy'⟩ := hk'
    exact hr.inj j k x' y' q1 q2 hx' hy' hq1 hq2 he
  · have := hr.dom _ _ hq
    simp only [AH.next_put]
    omega
  · rcases hget j x hj with ⟨e, -⟩ | h4
    · subst e
      exact .inr ⟨j, o, q, hi, hq, rfl⟩
    · exact .inr ⟨j, x, q, h4.2, hq, rfl⟩

/-- A live object is given up; a new one may lie where it lay. -/
theorem Post.move (hr : Rel P r h w) {i : Nat} {o o' : OB} {p q : Pl} {w' : World} (hi : h.get i = some o) (hp : r i = some p) (hq : q.blk = p.blk ∨ q.blk = w.heap.size) (hlt : q.blk < w'.heap.size) (hz : w.heap.size ≤ w'.heap.size) (hb : ∀ b, b < w.heap.size → b ≠ p.blk → w'.heap[b]? = w.heap[b]?)
    (ho : ObR P (r.set h.next q) q w' o') (h1 : w'.os = w.os) (h2 : w'.tape = w.tape) (h3 : w'.output = w.output) : Post P r h w (r.set h.next q) ((h.put i none).new o') w' := by
  have hle : r.le (r.set h.next q) := r.le_set q hr.fresh
  have hni : i ≠ h.next := fun e => by rw [e, hr.fresh] at hp; cases hp
  have hsm := hr.small _ _ hi
  have hset : ∀ j x, r.set h.next q j = some x → (j = h.next ∧ x = q) ∨ (j ≠ h.next ∧ r j = some x) := fun j x hx => by
    unfold Ren.set at hx
    by_cases e : j = h.next
    · rw [if_pos e] at hx; cases hx; exact .inl ⟨e, rfl⟩
    · rw [if_neg e] at hx; exact .inr ⟨e, hx⟩
  have hget : ∀ j x, ((h.put i none).new o').get j = some x → (j = h.next ∧ x = o') ∨ (j ≠ i ∧ j ≠ h.next ∧ h.get j = some x) := fun j x hj => by
    rw [AH.get_new, AH.next_put, AH.get_put] at hj
    by_cases e : j = h.next
    · by_cases e2 : h.next + 1 < 16777216
      · rw [if_pos ⟨e, e2⟩] at hj; cases hj; exact .inl ⟨e, rfl⟩
      · rw [if_neg (fun y => e2 y.2), if_neg (fun y => hni (y.1.symm.trans e))] at hj
        exact absurd (e ▸ hr.small _ _ hj) e2
    · rw [if_neg (fun y => e y.1)] at hj
      by_cases e3 : j = i
      · rw [if_pos ⟨e3, hsm⟩] at hj; cases hj
      · rw [if_neg (fun y => e3 y.1)] at hj; exact .inr ⟨e3, e, hj⟩
  have hold : ∀ j x y, j ≠ i → h.get j = some x → r j = some y → y.blk ≠ p.blk ∧ y.blk < w.heap.size := fun j x y e hj hy => ⟨fun e2 => e (hr.inj _ _ _ _ _ _ hj hi hy hp e2), (hr.dom _ _ hy).2⟩
  refine ⟨⟨fun j x hj => ?_, fun j x y hj hy => ?_, fun j k x y q1 q2 hj hk hq1 hq2 he => ?_, fun j y hy => ?_, fun j x hj => (hget j x hj).elim (fun e => e.1 ▸ Nat.lt_succ_self _) fun e => Nat.lt_succ_of_lt (hr.top _ _ e.2.2)⟩, hle, fun j y hy => ?_, by simp, hz, fun b hb' hno => hb b hb' fun e => hno i o p hi hp e.symm, fun j x y hj hy => ?_, fun j hj hn => by rw [AH.get_new, AH.next_put, if_neg (fun e => Nat.lt_irrefl _ (e.1 ▸ hj)), AH.get_put, if_neg (fun e => by rw [e.1, hp] at hn; cases hn)], h1, h2, h3⟩
  · rcases hget j x hj with ⟨e, -⟩ | h4
    · subst e
      rw [AH.get_new, AH.next_put, AH.get_put] at hj
      by_cases e2 : h.next + 1 < 16777216
      · exact e2
      · rw [if_neg (fun y => e2 y.2), if_neg (fun y => hni y.1.symm)] at hj
        exact hr.small _ _ hj
    · exact hr.small _ _ h4.2.2
  · rcases hget j x hj with ⟨e, e2⟩ | ⟨e, e2, h4⟩ <;> rcases hset j y hy with ⟨e3, e4⟩ | ⟨e3, h5⟩
    · rw [e2, e4]; exact ho
    · exact absurd e e3
    · exact absurd e3 e2
    · have := hold j x y e h4 h5
      exact ((hr.live j x y h4 h5).mono hle).same (hb _ this.2 this.1)
  · rcases hget j x hj with ⟨e, -⟩ | ⟨e, e2, h4⟩ <;> rcases hset j q1 hq1 with ⟨e3, e4⟩ | ⟨e3, h5⟩ <;> rcases hget k y hk with ⟨f, -⟩ | ⟨f, f2, g4⟩ <;> rcases hset k q2 hq2 with ⟨f3, f4⟩ | ⟨f3, g5⟩ <;> first | exact absurd e e3 | exact absurd e3 e2 | exact absurd f f3 | exact absurd f3 f2 | skip
    · exact e.trans f.symm
    · have := hold k y q2 f g4 g5
      rw [e4] at he
      rcases hq with hq | hq
      · exact absurd (he.symm.trans hq) this.1
      · omega
    · have := hold j x q1 e h4 h5
      rw [f4] at he
      rcases hq with hq | hq
      · exact absurd (he.trans hq) this.1
      · omega
    · exact hr.inj j k x y q1 q2 h4 g4 h5 g5 he
  · rcases hset j y hy with ⟨e, rfl⟩ | ⟨-, h5⟩
    · exact ⟨by simp [e], hlt⟩
    · have := hr.dom _ _ h5
      simp
      omega
  · rcases hset j y hy with ⟨e, rfl⟩ | ⟨-, h5⟩
    · exact .inr (by simp [e])
    · exact .inl h5
  · rcases hget j x hj with ⟨e, -⟩ | ⟨e, e2, h4⟩ <;> rcases hset j y hy with ⟨e3, rfl⟩ | ⟨e3, h5⟩
    · rcases hq with hq | hq
      · exact .inr ⟨i, o, p, hi, hp, hq.symm⟩
      · exact .inl (by omega)
    · exact absurd e e3
    · exact absurd e3 e2
    · exact .inr ⟨j, x, y, h4, h5, rfl⟩

theorem Post.drew (hr : Rel P r h w) : Post P r h w r h w.drew :=
  ⟨⟨hr.small, fun i o p h1 h2 => ObR.same (w := w) (w' := w.drew) rfl (hr.live i o p h1 h2), hr.inj, hr.dom, hr.top⟩, r.le_refl, fun _ _ h => .inl h, Nat.le_refl _, Nat.le_refl _, fun _ _ _ => rfl, fun i o p h1 h2 => .inr ⟨i, o, p, h1, h2, rfl⟩, fun _ _ _ => rfl, rfl, rfl, rfl⟩
end

/-- Less is known of memory. -/
theorem Rel.sub {P : Program} {r : Ren} {h g : AH} {w : World} (hr : Rel P r h w) (hs : ∀ i o, g.get i = some o → h.get i = some o) (hn : h.next ≤ g.next) : Rel P r g w :=
  ⟨fun i o hi => hr.small i o (hs i o hi), fun i o p hi hp => hr.live i o p (hs i o hi) hp, fun i j o o' p q h1 h2 h3 h4 he => hr.inj i j o o' p q (hs _ _ h1) (hs _ _ h2) h3 h4 he, fun i p hp => ⟨Nat.lt_of_lt_of_le (hr.dom i p hp).1 hn, (hr.dom i p hp).2⟩, fun i o hi => Nat.lt_of_lt_of_le (hr.top i o (hs i o hi)) hn⟩
theorem get_drop {h : AH} {i j : Nat} {o : OB} (hj : (h.put i none).get j = some o) : h.get j = some o := by
  rw [AH.get_put] at hj
  split at hj
  · cases hj
  · exact hj
theorem Post.drop {P : Program} {r : Ren} {h : AH} {w : World} (hr : Rel P r h w) (i : Nat) {q : Pl} (hi : r i = some q) : Post P r h w r (h.put i none) w :=
  ⟨hr.sub (fun _ _ => get_drop) (Nat.le_refl _), r.le_refl, fun _ _ h => .inl h, Nat.le_refl _, Nat.le_refl _, fun _ _ _ => rfl, fun j o p h1 h2 => .inr ⟨j, o, p, get_drop h1, h2, rfl⟩, fun j _ hn => by rw [AH.get_put, if_neg (fun e => by rw [e.1, hi] at hn; cases hn)], rfl, rfl, rfl⟩
end Go.Proofs.YtlclpcobblojnaaGreatDoor
/- The machine for closed runs: its operations do what the model's do. -/
namespace Go.Proofs.YtlclpcobblojnaaGreatDoor

section
variable {P : Program} {w : World}
theorem run_underlying {t : TypeId} {d : TypeDesc} (h : P.underlying t = some d) : (underlying t).run P w = .ok d w := by simp [underlying, h]
theorem run_info {t : TypeId} {i : TypeInfo} (h : P.info? t = some i) : (typeInfo t).run P w = .ok i w := by simp [typeInfo, h]
theorem szA_some {t : TypeId} {n : Nat} (h : szA P t = some n) : ∃ i, P.info? t = some i ∧ i.size = n := by
  unfold szA at h
  cases hi : P.info? t with
  | none => rw [hi] at h; cases h
  | some i => rw [hi] at h; cases h; exact ⟨i, rfl, rfl⟩
theorem run_size {t : TypeId} {n : Nat} (h : szA P t = some n) : (sizeOf t).run P w = .ok n w := by
  obtain ⟨i, h1, rfl⟩ := szA_some h
  simp [sizeOf, typeInfo, h1]
theorem run_agg {t : TypeId} {b : Bool} (h : aggA P t = some b) : (isAgg t).run P w = .ok b w := by
  unfold aggA at h
  simp only [isAgg, Sem.run_bind]
  cases hd : P.underlying t with
  | none => rw [hd] at h; cases h
  | some d =>
    rw [run_underlying hd, Result.andThen_ok]
    rw [hd] at h
    cases d <;> cases h <;> rfl
theorem run_zero {t : TypeId} {z : List AV} (h : zeroA P t = some z) : ∃ v, (zeroValue t).run P w = .ok v w ∧ z = v.cells.toList.map ofV1 ∧ ∃ i, P.info? t = some i ∧ i.zero = some v := by
  unfold zeroA at h
  cases hi : P.info? t with
  | none => rw [hi] at h; cases h
  | some i =>
    rw [hi] at h
    simp only at h
    cases hz : i.zero with
    | none => rw [hz] at h; cases h
    | some v =>
      rw [hz] at h
      cases h
      exact ⟨v, by simp [zeroValue, typeInfo, hi, hz], rfl, i, rfl, hz⟩
end

/-- The operands are what the machine has for them. -/
def EvOk (r : Ren) (t : Fr) (a : Act) (xs : List Operand) : Prop := ∀ x ∈ xs, VR r ((evB x).f t) (a.eval x)
theorem evB_ok {r : Ren} {t : Fr} {a : Act} (h : FrR r t a.tmps) (x : Operand) : VR r ((evB x).f t) (a.eval x) := by
  cases x with
  | tmp i =>
    unfold evB
    simp only
    cases hb : Nat.blt i 512 with
    | true =>
      have := Nat.le_of_ble_eq_true hb
      simp only [getF_eq]
      exact h i (by omega)
    | false => exact .junk _
  | const v => exact VR_ofV r v
  | func f => exact .fn f #[] #[] .nil
  | global g => exact .junk _
theorem EvOk.of {r : Ren} {t : Fr} {a : Act} (h : FrR r t a.tmps) (xs : List Operand) : EvOk r t a xs := fun x _ => evB_ok h x
theorem EvOk.mono {r s : Ren} (h : r.le s) {t : Fr} {a : Act} {xs : List Operand} (he : EvOk r t a xs) : EvOk s t a xs := fun x hx => (he x hx).mono h

/-- The operation is carried out: it yields v and leaves h'. -/
def Does (P : Program) (o : Oper) (a : Act) (r : Ren) (h : AH) (w : World) (v : AV) (h' : AH) : Prop :=
  ∃ s w' v', ((execOp a.eval o).run P w = .ok (.value v') w' ∨ ((execOp a.eval o).run P w = .ok .skip w' ∧ v' = undef)) ∧ VR s v v' ∧ Post P r h w s h' w'
def OpOk (P : Program) (o : Oper) (f : OpT) : Prop :=
  ∀ (t : Fr) (h : AH) (k : KV) (x : AV × AH) (r : Ren) (a : Act) (w : World), f t h k = some x → Rel P r h w → EvOk r t a o.op.operands.toList → ∃ v h', k v h' = some x ∧ Does P o a r h w v h'

/-- A value, nothing more: memory may have grown since. -/
def PDoes (P : Program) (o : Oper) (a : Act) (r : Ren) (h : AH) (w : World) (v : AV) (h' : AH) : Prop :=
  h' = h ∧ ∃ v', (execOp a.eval o).run P w = .ok (.value v') w ∧ VR r v v'
def PlOk (P : Program) (o : Oper) (f : OpT) : Prop :=
  ∀ (t : Fr) (h : AH) (k : KV) (x : AV × AH) (r : Ren) (a : Act) (w : World) (N : Nat), f t h k = some x → Rel P r ⟨h.t, N⟩ w → EvOk r t a o.op.operands.toList → ∃ v h', k v h' = some x ∧ PDoes P o a r h w v h'
theorem PDoes.pure {P : Program} {o : Oper} {a : Act} {r : Ren} {h : AH} {w : World} {v : AV} {v' : Value} {N : Nat} (_ : Rel P r ⟨h.t, N⟩ w) (hv : VR r v v') (he : (execOp a.eval o).run P w = .ok (.value v') w) : PDoes P o a r h w v h :=
  ⟨rfl, v', he, hv⟩
theorem PlOk.op {P : Program} {o : Oper} {f : OpT} (h : PlOk P o f) : OpOk P o f := by
  intro t g k x r a w hf hr he
  obtain ⟨v, h', h1, h2, v', h3, h4⟩ := h t g k x r a w g.next hf hr he
  subst h2
  exact ⟨v, _, h1, r, w, v', .inl h3, h4, Post.refl hr⟩
/-- A new object, which may come to lie in the model's memory later. -/
def LDoes (P : Program) (o : Oper) (a : Act) (r : Ren) (g : AH) (w : World) (i : Nat) (v : AV) : Prop :=
  ∃ s w' v', (execOp a.eval o).run P w = .ok (.value v') w' ∧ VR s v v' ∧ LPost P r g w i s w'
structure LateOk (P : Program) (o : Oper) (f : OpT) : Prop where
  makes : ∀ (t : Fr) (h : AH) (k : KV) (x : AV × AH), f t h k = some x → ∃ v ob, k v (h.new ob) = some x
  does : ∀ (t : Fr) (h : AH) (k : KV) (x : AV × AH) (r : Ren) (a : Act), f t h k = some x → EvOk r t a o.op.operands.toList →
    ∃ v ob, k v (h.new ob) = some x ∧ ∀ (w : World) (g : AH), Rel P r g w → r h.next = none → h.next < g.next → (∀ o', g.get h.next = some o' → o' = ob) → LDoes P o a r g w h.next v
theorem new_get {P : Program} {r : Ren} {w : World} {h g : AH} {ob o' : OB} (hr : Rel P r g w) (h1 : g.get h.next = some o') (h2 : (h.new ob).get h.next = some o') : o' = ob := by
  have := hr.small _ _ h1
  rw [AH.get_new, if_pos ⟨rfl, this⟩] at h2
  cases h2
  rfl
theorem LateOk.op {P : Program} {o : Oper} {f : OpT} (h : LateOk P o f) : OpOk P o f := by
  intro t g k x r a w hf hr he
  obtain ⟨v, ob, h1, h2⟩ := h.does t g k x r a hf he
  obtain ⟨s, w', v', h3, h4, h5⟩ := h2 w (g.new ob) (hr.new ob) hr.fresh (by simp) fun o' ho => by
    rw [AH.get_new] at ho
    split at ho
    · cases ho; rfl
    · rename_i hno
      exact absurd (hr.small _ _ ho) fun e => hno ⟨rfl, e⟩
  exact ⟨v, _, h1, s, w', v', .inl h3, h4, h5.post hr⟩

section
variable {P : Program} {o : Oper}
theorem fail_ok : OpOk P o failB.f := fun t h k x r a w hf => by cases hf
theorem fail_pl : PlOk P o failB.f := fun t h k x r a w N hf => by cases hf
theorem fail_late : LateOk P o failB.f := ⟨fun t h k x hf => (by cases hf), fun t h k x r a hf => (by cases hf)⟩

theorem move_ok {x : Operand} (ho : o.op = .move x ∨ o.op = .assign x) : PlOk P o (moveC (evB x).f) := by
  intro t h k y r a w N hf hr he
  refine ⟨_, _, hf, PDoes.pure hr (he x ?_) ?_⟩
  · rcases ho with ho | ho <;> simp [ho, Op.operands]
  · rcases ho with ho | ho <;> simp [execOp, ho]

theorem pick_ok {c x y : Operand} (ho : o.op = .pick c x y) : PlOk P o (pickC (evB c).f (evB x).f (evB y).f) := by
  intro t h k z r a w N hf hr he
  rw [ho] at he
  unfold pickC at hf
  obtain ⟨h1, h2⟩ := ifB_some hf
  obtain ⟨b, hb, hb2⟩ := (he c (by simp [Op.operands])).inv1 (beq_of h1)
  rw [hb2] at h2
  cases b with
  | true => exact ⟨_, _, h2, PDoes.pure hr (he x (by simp [Op.operands])) (by simp [execOp, ho, hb, asBool])⟩
  | false => exact ⟨_, _, h2, PDoes.pure hr (he y (by simp [Op.operands])) (by simp [execOp, ho, hb, asBool])⟩

/-- New cells. -/
theorem late_cells {r : Ren} {g : AH} {w : World} {i : Nat} (hr : Rel P r g w) (hn : r i = none) (hi : i < g.next) {l : List AV} {vs : Array Value} {e n : Nat} (hob : ∀ o', g.get i = some o' → o' = .arr l e) (hl : VRs r l vs.toList) (hk : szA P e = some n) :
    LPost P r g w i (r.set i ⟨w.heap.size, 0, vs.size, n⟩) (w.alloc (.cells vs e)) := by
  refine LPost.alloc hr hn hi hob rfl (.arr (heap_push_new w _) (.inl rfl) rfl ?_ hk fun j a ha => ?_)
  · have := hl.length
    simp at this
    simp [this]
  · obtain ⟨v, h1, h2⟩ := hl.get ha
    exact ⟨v, by simpa using h1, h2.mono (r.le_set _ hn)⟩

theorem alloc_ok {e : TypeId} {z : List AV} {n : Nat} (ho : o.op = .alloc e) (hz : zeroA P e = some z) (hn : szA P e = some n) : LateOk P o (allocC z e) := by
  refine ⟨fun t h k x hf => ⟨_, _, hf⟩, fun t h k y r a hf he => ⟨_, _, hf, fun w g hr h0 hi hob => ?_⟩⟩
  obtain ⟨v, h1, rfl, -⟩ := run_zero (P := P) (w := w) hz
  refine ⟨_, _, _, ?_, .ptr 0 (Ren.set_same _ _ _), late_cells hr h0 hi hob (VRs_ofV1 r v.cells.toList) hn⟩
  simp [execOp, ho, Instr.alloc, h1, newVar, newRow]

theorem box_ok {e : TypeId} {x : Operand} {n : Nat} (ho : o.op = .box e x) (hn : szA P e = some n) : LateOk P o (boxC (evB x).f e) := by
  refine ⟨fun t h k y hf => ?_, fun t h k y r a hf he => ?_⟩
  · exact ⟨_, _, (ifB_some hf).2⟩
  have hx := he x (by simp [ho, Op.operands])
  obtain ⟨h7, hf⟩ := ifB_some hf
  refine ⟨_, _, hf, fun w g hr h0 hi hob => ⟨_, _, _, ?_, .ptr 0 (Ren.set_same _ _ _), late_cells hr h0 hi hob (hx.cells (Nat.le_of_ble_eq_true h7)) hn⟩⟩
  simp [execOp, ho, Instr.box, newVar, newRow]
end
end Go.Proofs.YtlclpcobblojnaaGreatDoor
